-- Written by a program of this session out of the translation; Lean checks it.
import Derived.Test.YtlifeghjcgbfnaaGx0
import Derived.Test.YtlifeghjcgbfnaaGx11
import Derived.Test.YtlifeghjcgbfnaaGx13
namespace Go.Proofs.Ytlifeghjcgbfnaa.G
open Go.RowKit Go.Proofs.YtlifeghjcgbfnaaW.PrintWords Go.Proofs.YtlifeghjcgbfnaaW.PrintLast Go.Proofs.YtlifeghjcgbfnaaW.PrintMore
attribute [local go_sem] max2_int min2_int max_two min_two max_three min_three max_four min_four   -- for this text's walks alone
set_option linter.unusedVariables false
set_option linter.unusedSimpArgs false

/-! ### apogeeref10_Turn: function 19 -/
mutual
def apogeeref10_Turn.j0 : Nat → Bool → Int → Int → Int → Int → Int → Int → Option (Int)
 | 0, _, _, _, _, _, _, _ => none
 | k + 1, x23, x345000, x345001, x346000, x346001, x347000, x347001 => if x23 = true then (some 0) else ((apogeeref10_short.f (wrap64 (x346000 - x345000))).bind fun t350 => (if t350 = true then ((apogeeref10_short.f (wrap64 (x347001 - x345001))).bind fun t351 => (if t351 = true then ((apogeeref10_short.f (wrap64 (x346001 - x345001))).bind fun t352 => (if t352 = true then ((apogeeref10_short.f (wrap64 (x347000 - x345000))).bind fun t353 => (apogeeref10_Turn.j1 k (wrap64 (x346000 - x345000)) (wrap64 (x347001 - x345001)) (wrap64 (x346001 - x345001)) (wrap64 (x347000 - x345000)) t353)) else (apogeeref10_Turn.j1 k (wrap64 (x346000 - x345000)) (wrap64 (x347001 - x345001)) (wrap64 (x346001 - x345001)) (wrap64 (x347000 - x345000)) false))) else (apogeeref10_Turn.j1 k (wrap64 (x346000 - x345000)) (wrap64 (x347001 - x345001)) (wrap64 (x346001 - x345001)) (wrap64 (x347000 - x345000)) false))) else (apogeeref10_Turn.j1 k (wrap64 (x346000 - x345000)) (wrap64 (x347001 - x345001)) (wrap64 (x346001 - x345001)) (wrap64 (x347000 - x345000)) false)))
def apogeeref10_Turn.j1 : Nat → Int → Int → Int → Int → Bool → Option (Int)
 | 0, _, _, _, _, _ => none
 | k + 1, x7, x8, x9, x10, x57 => if x57 = true then (if (wrap64 (x7 * x8)) < (wrap64 (x9 * x10)) then (some (-1)) else (if (wrap64 (x7 * x8)) > (wrap64 (x9 * x10)) then (some 1) else (some 0))) else ((apogeeref01_Mul.f k x7 x8).bind fun bt354 => ((apogeeref01_Mul.f k x9 x10).bind fun bt356 => ((apogeeref01_Cmp.f k bt354.1 bt354.2 bt356.1 bt356.2).bind fun t358 => (some t358))))
end
def apogeeref10_Turn.f (k : Nat) (a0_0 : Int) (a0_1 : Int) (a1_0 : Int) (a1_1 : Int) (a2_0 : Int) (a2_1 : Int) : Option (Int) := (apogeeref10_Right.f a0_0 a0_1).bind fun t347 => (if t347 = true then ((apogeeref10_Right.f a1_0 a1_1).bind fun t348 => (if t348 = true then ((apogeeref10_Right.f a2_0 a2_1).bind fun t349 => (apogeeref10_Turn.j0 k (!t349) a0_0 a0_1 a1_0 a1_1 a2_0 a2_1)) else (apogeeref10_Turn.j0 k true a0_0 a0_1 a1_0 a1_1 a2_0 a2_1))) else (apogeeref10_Turn.j0 k true a0_0 a0_1 a1_0 a1_1 a2_0 a2_1))
theorem apogeeref10_Turn.mono_l : ∀ k, (∀ y0 y1 y2 y3 y4 y5 y6, LeO (apogeeref10_Turn.j0 k y0 y1 y2 y3 y4 y5 y6) (apogeeref10_Turn.j0 (k + 1) y0 y1 y2 y3 y4 y5 y6)) ∧ (∀ y0 y1 y2 y3 y4, LeO (apogeeref10_Turn.j1 k y0 y1 y2 y3 y4) (apogeeref10_Turn.j1 (k + 1) y0 y1 y2 y3 y4))
 | 0 => ⟨fun _ _ _ _ _ _ _ r h => by simp [apogeeref10_Turn.j0] at h, fun _ _ _ _ _ r h => by simp [apogeeref10_Turn.j1] at h⟩
 | k + 1 => by
  obtain ⟨ih0, ih1⟩ := apogeeref10_Turn.mono_l k
  refine ⟨?_, ?_⟩
  ·intro y0 y1 y2 y3 y4 y5 y6
   unfold apogeeref10_Turn.j0
   repeat' first
   | (with_reducible exact ih0 _ _ _ _ _ _ _)
   | (with_reducible exact ih1 _ _ _ _ _)
   | (with_reducible exact apogeeref01_Cmp.mono _ _ _ _ _)
   | (with_reducible exact apogeeref01_Mul.mono _ _ _)
   | (with_reducible exact LeO.refl _)
   | (with_reducible exact LeO.none _)
   | (with_reducible refine LeO.ite ?_ ?_)
   | (with_reducible refine LeO.bind ?_ (fun _ => ?_))
   | exact ih0 _ _ _ _ _ _ _
   | exact ih1 _ _ _ _ _
   | exact apogeeref01_Cmp.mono _ _ _ _ _
   | exact apogeeref01_Mul.mono _ _ _
   | exact LeO.none _
   | refine LeO.ite ?_ ?_
   | refine LeO.bind ?_ (fun _ => ?_)
  ·intro y0 y1 y2 y3 y4
   unfold apogeeref10_Turn.j1
   repeat' first
   | (with_reducible exact ih0 _ _ _ _ _ _ _)
   | (with_reducible exact ih1 _ _ _ _ _)
   | (with_reducible exact apogeeref01_Cmp.mono _ _ _ _ _)
   | (with_reducible exact apogeeref01_Mul.mono _ _ _)
   | (with_reducible exact LeO.refl _)
   | (with_reducible exact LeO.none _)
   | (with_reducible refine LeO.ite ?_ ?_)
   | (with_reducible refine LeO.bind ?_ (fun _ => ?_))
   | exact ih0 _ _ _ _ _ _ _
   | exact ih1 _ _ _ _ _
   | exact apogeeref01_Cmp.mono _ _ _ _ _
   | exact apogeeref01_Mul.mono _ _ _
   | exact LeO.none _
   | refine LeO.ite ?_ ?_
   | refine LeO.bind ?_ (fun _ => ?_)
theorem apogeeref10_Turn.mono : ∀ a0 a1 a2 a3 a4 a5 k, LeO (apogeeref10_Turn.f k a0 a1 a2 a3 a4 a5) (apogeeref10_Turn.f (k + 1) a0 a1 a2 a3 a4 a5) := by
 intro a0 a1 a2 a3 a4 a5 k
 obtain ⟨ih0, ih1⟩ := apogeeref10_Turn.mono_l k
 unfold apogeeref10_Turn.f
 repeat' first
   | (with_reducible exact ih0 _ _ _ _ _ _ _)
   | (with_reducible exact ih1 _ _ _ _ _)
   | (with_reducible exact apogeeref01_Cmp.mono _ _ _ _ _)
   | (with_reducible exact apogeeref01_Mul.mono _ _ _)
   | (with_reducible exact LeO.refl _)
   | (with_reducible exact LeO.none _)
   | (with_reducible refine LeO.ite ?_ ?_)
   | (with_reducible refine LeO.bind ?_ (fun _ => ?_))
   | exact ih0 _ _ _ _ _ _ _
   | exact ih1 _ _ _ _ _
   | exact apogeeref01_Cmp.mono _ _ _ _ _
   | exact apogeeref01_Mul.mono _ _ _
   | exact LeO.none _
   | refine LeO.ite ?_ ?_
   | refine LeO.bind ?_ (fun _ => ?_)
set_option maxHeartbeats 8000000 in
set_option maxRecDepth 100000 in
theorem apogeeref10_Turn.calls (k : Nat) (a0_0 : Int) (a0_1 : Int) (a1_0 : Int) (a1_1 : Int) (a2_0 : Int) (a2_1 : Int) (r : Int) (w : World) (h : apogeeref10_Turn.f k a0_0 a0_1 a1_0 a1_1 a2_0 a2_1 = some r) :
  Calls Try.prog 19 #[.agg #[.int .i64 a0_0, .int .i64 a0_1], .agg #[.int .i64 a1_0, .int .i64 a1_1], .agg #[.int .i64 a2_0, .int .i64 a2_1]] w fun e w' => e = .returned (.int .i64 r) ∧ Below w.heap.size w w' := by
 have hu31 := Try.underlying31
 have HB := bA (Below.refl w.heap.size w)
 have H : ((apogeeref10_Right.f a0_0 a0_1).bind fun t347 => (if t347 = true then ((apogeeref10_Right.f a1_0 a1_1).bind fun t348 => (if t348 = true then ((apogeeref10_Right.f a2_0 a2_1).bind fun t349 => (apogeeref10_Turn.j0 k (!t349) a0_0 a0_1 a1_0 a1_1 a2_0 a2_1)) else (apogeeref10_Turn.j0 k true a0_0 a0_1 a1_0 a1_1 a2_0 a2_1))) else (apogeeref10_Turn.j0 k true a0_0 a0_1 a1_0 a1_1 a2_0 a2_1))) = some r := h
 clear h
 have HC4 := bA H
 clear H
 go_enter Try.func19, Try.ntmps19
 go_upto_region 1 with (first | ((with_reducible refine gate_dst (N := 3) rfl ?_); refine bE (N := 3) (cs := #[.int .i64 a0_0, .int .i64 a0_1]) (t := 31) ?_; intro gb344 hg w5 hbox hb; have n0_ := bA (bS hb); have n1_ := bA (hbox); have n2_ := bA ((bZ hg : w.heap.size ≤ gb344)); have n3_ := bA ((bZ hg : w.heap.size ≤ gb344)); clear HB; have HB := n0_; have BK344 := n1_; have GW344 := n2_; have GE344 := n3_; clear n0_ n1_ n2_ n3_; clear hb hbox hg) | ((with_reducible refine gate_dst (N := 4) rfl ?_); refine bE (N := 4) (cs := #[.int .i64 a1_0, .int .i64 a1_1]) (t := 31) ?_; intro gb345 hg w6 hbox hb; have n0_ := bA (bB BK344 hb); have n1_ := bA (bS hb); have n2_ := bA (hbox); have n3_ := bA ((bZ hg : w.heap.size ≤ gb345)); have n4_ := bA ((bZ hg : w.heap.size ≤ gb345)); have n5_ := bA ((bL BK344 hg : gb344 ≠ gb345)); have n6_ := bA ((bG BK344 hg : gb345 ≠ gb344)); clear BK344; clear HB; have BK344 := n0_; have HB := n1_; have BK345 := n2_; have GW345 := n3_; have GE345 := n4_; have NB344_345 := n5_; have NB345_344 := n6_; clear n0_ n1_ n2_ n3_ n4_ n5_ n6_; clear hb hbox hg) | ((with_reducible refine gate_dst (N := 5) rfl ?_); refine bE (N := 5) (cs := #[.int .i64 a2_0, .int .i64 a2_1]) (t := 31) ?_; intro gb346 hg w7 hbox hb; have n0_ := bA (bB BK344 hb); have n1_ := bA (bB BK345 hb); have n2_ := bA (bS hb); have n3_ := bA (hbox); have n4_ := bA ((bZ hg : w.heap.size ≤ gb346)); have n5_ := bA ((bZ hg : w.heap.size ≤ gb346)); have n6_ := bA ((bL BK344 hg : gb344 ≠ gb346)); have n7_ := bA ((bG BK344 hg : gb346 ≠ gb344)); have n8_ := bA ((bL BK345 hg : gb345 ≠ gb346)); have n9_ := bA ((bG BK345 hg : gb346 ≠ gb345)); clear BK344; clear BK345; clear HB; have BK344 := n0_; have BK345 := n1_; have HB := n2_; have BK346 := n3_; have GW346 := n4_; have GE346 := n5_; have NB344_346 := n6_; have NB346_344 := n7_; have NB345_346 := n8_; have NB346_345 := n9_; clear n0_ n1_ n2_ n3_ n4_ n5_ n6_ n7_ n8_ n9_; clear hb hbox hg))
 repeat (go_quiet (first | ((with_reducible refine gate_dst (N := 3) rfl ?_); refine bE (N := 3) (cs := #[.int .i64 a0_0, .int .i64 a0_1]) (t := 31) ?_; intro gb344 hg w5 hbox hb; have n0_ := bA (bS hb); have n1_ := bA (hbox); have n2_ := bA ((bZ hg : w.heap.size ≤ gb344)); have n3_ := bA ((bZ hg : w.heap.size ≤ gb344)); clear HB; have HB := n0_; have BK344 := n1_; have GW344 := n2_; have GE344 := n3_; clear n0_ n1_ n2_ n3_; clear hb hbox hg) | ((with_reducible refine gate_dst (N := 4) rfl ?_); refine bE (N := 4) (cs := #[.int .i64 a1_0, .int .i64 a1_1]) (t := 31) ?_; intro gb345 hg w6 hbox hb; have n0_ := bA (bB BK344 hb); have n1_ := bA (bS hb); have n2_ := bA (hbox); have n3_ := bA ((bZ hg : w.heap.size ≤ gb345)); have n4_ := bA ((bZ hg : w.heap.size ≤ gb345)); have n5_ := bA ((bL BK344 hg : gb344 ≠ gb345)); have n6_ := bA ((bG BK344 hg : gb345 ≠ gb344)); clear BK344; clear HB; have BK344 := n0_; have HB := n1_; have BK345 := n2_; have GW345 := n3_; have GE345 := n4_; have NB344_345 := n5_; have NB345_344 := n6_; clear n0_ n1_ n2_ n3_ n4_ n5_ n6_; clear hb hbox hg) | ((with_reducible refine gate_dst (N := 5) rfl ?_); refine bE (N := 5) (cs := #[.int .i64 a2_0, .int .i64 a2_1]) (t := 31) ?_; intro gb346 hg w7 hbox hb; have n0_ := bA (bB BK344 hb); have n1_ := bA (bB BK345 hb); have n2_ := bA (bS hb); have n3_ := bA (hbox); have n4_ := bA ((bZ hg : w.heap.size ≤ gb346)); have n5_ := bA ((bZ hg : w.heap.size ≤ gb346)); have n6_ := bA ((bL BK344 hg : gb344 ≠ gb346)); have n7_ := bA ((bG BK344 hg : gb346 ≠ gb344)); have n8_ := bA ((bL BK345 hg : gb345 ≠ gb346)); have n9_ := bA ((bG BK345 hg : gb346 ≠ gb345)); clear BK344; clear BK345; clear HB; have BK344 := n0_; have BK345 := n1_; have HB := n2_; have BK346 := n3_; have GW346 := n4_; have GE346 := n5_; have NB344_346 := n6_; have NB346_344 := n7_; have NB345_346 := n8_; have NB346_345 := n9_; clear n0_ n1_ n2_ n3_ n4_ n5_ n6_ n7_ n8_ n9_; clear hb hbox hg)); go_upto_region 1 with (first | ((with_reducible refine gate_dst (N := 3) rfl ?_); refine bE (N := 3) (cs := #[.int .i64 a0_0, .int .i64 a0_1]) (t := 31) ?_; intro gb344 hg w5 hbox hb; have n0_ := bA (bS hb); have n1_ := bA (hbox); have n2_ := bA ((bZ hg : w.heap.size ≤ gb344)); have n3_ := bA ((bZ hg : w.heap.size ≤ gb344)); clear HB; have HB := n0_; have BK344 := n1_; have GW344 := n2_; have GE344 := n3_; clear n0_ n1_ n2_ n3_; clear hb hbox hg) | ((with_reducible refine gate_dst (N := 4) rfl ?_); refine bE (N := 4) (cs := #[.int .i64 a1_0, .int .i64 a1_1]) (t := 31) ?_; intro gb345 hg w6 hbox hb; have n0_ := bA (bB BK344 hb); have n1_ := bA (bS hb); have n2_ := bA (hbox); have n3_ := bA ((bZ hg : w.heap.size ≤ gb345)); have n4_ := bA ((bZ hg : w.heap.size ≤ gb345)); have n5_ := bA ((bL BK344 hg : gb344 ≠ gb345)); have n6_ := bA ((bG BK344 hg : gb345 ≠ gb344)); clear BK344; clear HB; have BK344 := n0_; have HB := n1_; have BK345 := n2_; have GW345 := n3_; have GE345 := n4_; have NB344_345 := n5_; have NB345_344 := n6_; clear n0_ n1_ n2_ n3_ n4_ n5_ n6_; clear hb hbox hg) | ((with_reducible refine gate_dst (N := 5) rfl ?_); refine bE (N := 5) (cs := #[.int .i64 a2_0, .int .i64 a2_1]) (t := 31) ?_; intro gb346 hg w7 hbox hb; have n0_ := bA (bB BK344 hb); have n1_ := bA (bB BK345 hb); have n2_ := bA (bS hb); have n3_ := bA (hbox); have n4_ := bA ((bZ hg : w.heap.size ≤ gb346)); have n5_ := bA ((bZ hg : w.heap.size ≤ gb346)); have n6_ := bA ((bL BK344 hg : gb344 ≠ gb346)); have n7_ := bA ((bG BK344 hg : gb346 ≠ gb344)); have n8_ := bA ((bL BK345 hg : gb345 ≠ gb346)); have n9_ := bA ((bG BK345 hg : gb346 ≠ gb345)); clear BK344; clear BK345; clear HB; have BK344 := n0_; have BK345 := n1_; have HB := n2_; have BK346 := n3_; have GW346 := n4_; have GE346 := n5_; have NB344_346 := n6_; have NB346_344 := n7_; have NB345_346 := n8_; have NB346_345 := n9_; clear n0_ n1_ n2_ n3_ n4_ n5_ n6_ n7_ n8_ n9_; clear hb hbox hg)))
 (try simp only [Act.put, List.setIfInBounds_toArray, List.set_cons_zero, List.set_cons_succ])
 go_cut [23] (fun v23 wc => ∃ (kq : Nat) (x23_3 : Bool), v23 = .bool x23_3 ∧ Aside0 (apogeeref10_Turn.j0 kq x23_3 a0_0 a0_1 a1_0 a1_1 a2_0 a2_1 = some r) ∧ Aside0 (kq ≤ k) ∧ Aside0 (wc.heap[gb344]? = some (.cells #[.int .i64 a0_0, .int .i64 a0_1] 31 (0, 0))) ∧ Aside0 (wc.heap[gb345]? = some (.cells #[.int .i64 a1_0, .int .i64 a1_1] 31 (0, 0))) ∧ Aside0 (wc.heap[gb346]? = some (.cells #[.int .i64 a2_0, .int .i64 a2_1] 31 (0, 0))) ∧ Aside0 (Below w.heap.size w wc))
 case first =>
  have H := HC4.out
  clear HC4
  replace H := Option.bind_eq_some_iff.mp H
  obtain ⟨t347, A80, H⟩ := H
  replace H : (if t347 = true then ((apogeeref10_Right.f a1_0 a1_1).bind fun t348 => (if t348 = true then ((apogeeref10_Right.f a2_0 a2_1).bind fun t349 => (apogeeref10_Turn.j0 k (!t349) a0_0 a0_1 a1_0 a1_1 a2_0 a2_1)) else (apogeeref10_Turn.j0 k true a0_0 a0_1 a1_0 a1_1 a2_0 a2_1))) else (apogeeref10_Turn.j0 k true a0_0 a0_1 a1_0 a1_1 a2_0 a2_1)) = some r := H
  have A8 := bA A80
  clear A80
  by_cases c9 : t347 = true
  ·subst c9
   rw [if_pos rfl] at H
   replace H := Option.bind_eq_some_iff.mp H
   obtain ⟨t348, A100, H⟩ := H
   replace H : (if t348 = true then ((apogeeref10_Right.f a2_0 a2_1).bind fun t349 => (apogeeref10_Turn.j0 k (!t349) a0_0 a0_1 a1_0 a1_1 a2_0 a2_1)) else (apogeeref10_Turn.j0 k true a0_0 a0_1 a1_0 a1_1 a2_0 a2_1)) = some r := H
   have A10 := bA A100
   clear A100
   by_cases c11 : t348 = true
   ·subst c11
    rw [if_pos rfl] at H
    replace H := Option.bind_eq_some_iff.mp H
    obtain ⟨t349, A120, H⟩ := H
    replace H : (apogeeref10_Turn.j0 k (!t349) a0_0 a0_1 a1_0 a1_1 a2_0 a2_1) = some r := H
    have A12 := bA A120
    clear A120
    have H' := bA H
    clear H
    have hnb13 := NB344_345.out
    have hnc13 := NB345_344.out
    have hnb14 := NB344_346.out
    have hnc14 := NB346_344.out
    have hcz15_0 : w7.cell? ⟨gb344, 0, none⟩ = some (.int .i64 a0_0) := (blk_cell BK344.out 0).trans rfl
    have hcz15_1 : w7.cell? ⟨gb344, 1, none⟩ = some (.int .i64 a0_1) := (blk_cell BK344.out 1).trans rfl
    have hfz15_0 := blk_frozen BK344.out 0
    have hfz15_1 := blk_frozen BK344.out 1
    go_wp2_with (first | (go_at_call 17; (with_reducible refine (apogeeref10_Right.calls a0_0 a0_1 true _ A8.out).mono ?_); rintro e w16 ⟨rfl, hb⟩; have n0_ := bA (bB BK344 hb); have n1_ := bA (bB BK345 hb); have n2_ := bA (bB BK346 hb); have n3_ := bA (bS hb); clear BK344; clear BK345; clear BK346; clear HB; have BK344 := n0_; have BK345 := n1_; have BK346 := n2_; have HB := n3_; clear n0_ n1_ n2_ n3_; (try clear hb); (try clear hb2); (try clear hk); (try clear hi); have hnb17 := NB345_346.out; have hnc17 := NB346_345.out; have hcz18_0 : w16.cell? ⟨gb345, 0, none⟩ = some (.int .i64 a1_0) := (blk_cell BK345.out 0).trans rfl; have hcz18_1 : w16.cell? ⟨gb345, 1, none⟩ = some (.int .i64 a1_1) := (blk_cell BK345.out 1).trans rfl; have hfz18_0 := blk_frozen BK345.out 0; have hfz18_1 := blk_frozen BK345.out 1) | (go_at_call 17; (with_reducible refine (apogeeref10_Right.calls a1_0 a1_1 true _ A10.out).mono ?_); rintro e w19 ⟨rfl, hb⟩; have n0_ := bA (bB BK344 hb); have n1_ := bA (bB BK345 hb); have n2_ := bA (bB BK346 hb); have n3_ := bA (bS hb); clear BK344; clear BK345; clear BK346; clear HB; have BK344 := n0_; have BK345 := n1_; have BK346 := n2_; have HB := n3_; clear n0_ n1_ n2_ n3_; (try clear hb); (try clear hb2); (try clear hk); (try clear hi); have hcz20_0 : w19.cell? ⟨gb346, 0, none⟩ = some (.int .i64 a2_0) := (blk_cell BK346.out 0).trans rfl; have hcz20_1 : w19.cell? ⟨gb346, 1, none⟩ = some (.int .i64 a2_1) := (blk_cell BK346.out 1).trans rfl; have hfz20_0 := blk_frozen BK346.out 0; have hfz20_1 := blk_frozen BK346.out 1) | (go_at_call 17; (with_reducible refine (apogeeref10_Right.calls a2_0 a2_1 t349 _ A12.out).mono ?_); rintro e w21 ⟨rfl, hb⟩; have n0_ := bA (bB BK344 hb); have n1_ := bA (bB BK345 hb); have n2_ := bA (bB BK346 hb); have n3_ := bA (bS hb); clear BK344; clear BK345; clear BK346; clear HB; have BK344 := n0_; have BK345 := n1_; have BK346 := n2_; have HB := n3_; clear n0_ n1_ n2_ n3_; (try clear hb); (try clear hb2); (try clear hk); (try clear hi)))
    repeat (go_quiet (first | (go_at_call 17; (with_reducible refine (apogeeref10_Right.calls a0_0 a0_1 true _ A8.out).mono ?_); rintro e w16 ⟨rfl, hb⟩; have n0_ := bA (bB BK344 hb); have n1_ := bA (bB BK345 hb); have n2_ := bA (bB BK346 hb); have n3_ := bA (bS hb); clear BK344; clear BK345; clear BK346; clear HB; have BK344 := n0_; have BK345 := n1_; have BK346 := n2_; have HB := n3_; clear n0_ n1_ n2_ n3_; (try clear hb); (try clear hb2); (try clear hk); (try clear hi); have hnb17 := NB345_346.out; have hnc17 := NB346_345.out; have hcz18_0 : w16.cell? ⟨gb345, 0, none⟩ = some (.int .i64 a1_0) := (blk_cell BK345.out 0).trans rfl; have hcz18_1 : w16.cell? ⟨gb345, 1, none⟩ = some (.int .i64 a1_1) := (blk_cell BK345.out 1).trans rfl; have hfz18_0 := blk_frozen BK345.out 0; have hfz18_1 := blk_frozen BK345.out 1) | (go_at_call 17; (with_reducible refine (apogeeref10_Right.calls a1_0 a1_1 true _ A10.out).mono ?_); rintro e w19 ⟨rfl, hb⟩; have n0_ := bA (bB BK344 hb); have n1_ := bA (bB BK345 hb); have n2_ := bA (bB BK346 hb); have n3_ := bA (bS hb); clear BK344; clear BK345; clear BK346; clear HB; have BK344 := n0_; have BK345 := n1_; have BK346 := n2_; have HB := n3_; clear n0_ n1_ n2_ n3_; (try clear hb); (try clear hb2); (try clear hk); (try clear hi); have hcz20_0 : w19.cell? ⟨gb346, 0, none⟩ = some (.int .i64 a2_0) := (blk_cell BK346.out 0).trans rfl; have hcz20_1 : w19.cell? ⟨gb346, 1, none⟩ = some (.int .i64 a2_1) := (blk_cell BK346.out 1).trans rfl; have hfz20_0 := blk_frozen BK346.out 0; have hfz20_1 := blk_frozen BK346.out 1) | (go_at_call 17; (with_reducible refine (apogeeref10_Right.calls a2_0 a2_1 t349 _ A12.out).mono ?_); rintro e w21 ⟨rfl, hb⟩; have n0_ := bA (bB BK344 hb); have n1_ := bA (bB BK345 hb); have n2_ := bA (bB BK346 hb); have n3_ := bA (bS hb); clear BK344; clear BK345; clear BK346; clear HB; have BK344 := n0_; have BK345 := n1_; have BK346 := n2_; have HB := n3_; clear n0_ n1_ n2_ n3_; (try clear hb); (try clear hb2); (try clear hk); (try clear hi))); try go_wp2_with (first | (go_at_call 17; (with_reducible refine (apogeeref10_Right.calls a0_0 a0_1 true _ A8.out).mono ?_); rintro e w16 ⟨rfl, hb⟩; have n0_ := bA (bB BK344 hb); have n1_ := bA (bB BK345 hb); have n2_ := bA (bB BK346 hb); have n3_ := bA (bS hb); clear BK344; clear BK345; clear BK346; clear HB; have BK344 := n0_; have BK345 := n1_; have BK346 := n2_; have HB := n3_; clear n0_ n1_ n2_ n3_; (try clear hb); (try clear hb2); (try clear hk); (try clear hi); have hnb17 := NB345_346.out; have hnc17 := NB346_345.out; have hcz18_0 : w16.cell? ⟨gb345, 0, none⟩ = some (.int .i64 a1_0) := (blk_cell BK345.out 0).trans rfl; have hcz18_1 : w16.cell? ⟨gb345, 1, none⟩ = some (.int .i64 a1_1) := (blk_cell BK345.out 1).trans rfl; have hfz18_0 := blk_frozen BK345.out 0; have hfz18_1 := blk_frozen BK345.out 1) | (go_at_call 17; (with_reducible refine (apogeeref10_Right.calls a1_0 a1_1 true _ A10.out).mono ?_); rintro e w19 ⟨rfl, hb⟩; have n0_ := bA (bB BK344 hb); have n1_ := bA (bB BK345 hb); have n2_ := bA (bB BK346 hb); have n3_ := bA (bS hb); clear BK344; clear BK345; clear BK346; clear HB; have BK344 := n0_; have BK345 := n1_; have BK346 := n2_; have HB := n3_; clear n0_ n1_ n2_ n3_; (try clear hb); (try clear hb2); (try clear hk); (try clear hi); have hcz20_0 : w19.cell? ⟨gb346, 0, none⟩ = some (.int .i64 a2_0) := (blk_cell BK346.out 0).trans rfl; have hcz20_1 : w19.cell? ⟨gb346, 1, none⟩ = some (.int .i64 a2_1) := (blk_cell BK346.out 1).trans rfl; have hfz20_0 := blk_frozen BK346.out 0; have hfz20_1 := blk_frozen BK346.out 1) | (go_at_call 17; (with_reducible refine (apogeeref10_Right.calls a2_0 a2_1 t349 _ A12.out).mono ?_); rintro e w21 ⟨rfl, hb⟩; have n0_ := bA (bB BK344 hb); have n1_ := bA (bB BK345 hb); have n2_ := bA (bB BK346 hb); have n3_ := bA (bS hb); clear BK344; clear BK345; clear BK346; clear HB; have BK344 := n0_; have BK345 := n1_; have BK346 := n2_; have HB := n3_; clear n0_ n1_ n2_ n3_; (try clear hb); (try clear hb2); (try clear hk); (try clear hi))))
    go_meet
    case rel => exact ⟨_, (!t349), (by first | rfl | (simp; done) | (simp [*]; done)), H', ⟨by first | omega | exact Nat.le_refl _⟩, ⟨by (with_reducible repeat (first | refine blk_drewN ?_ _ | refine blk_drew ?_ | refine blk_alloc ?_ _)); exact BK344.out⟩, ⟨by (with_reducible repeat (first | refine blk_drewN ?_ _ | refine blk_drew ?_ | refine blk_alloc ?_ _)); exact BK345.out⟩, ⟨by (with_reducible repeat (first | refine blk_drewN ?_ _ | refine blk_drew ?_ | refine blk_alloc ?_ _)); exact BK346.out⟩, ⟨bX⟩⟩
   ·replace c11 := Bool.eq_false_iff.mpr c11
    subst c11
    rw [if_neg (show ¬ (false = true) by decide)] at H
    have H' := bA H
    clear H
    have hnb22 := NB344_345.out
    have hnc22 := NB345_344.out
    have hnb23 := NB344_346.out
    have hnc23 := NB346_344.out
    have hcz24_0 : w7.cell? ⟨gb344, 0, none⟩ = some (.int .i64 a0_0) := (blk_cell BK344.out 0).trans rfl
    have hcz24_1 : w7.cell? ⟨gb344, 1, none⟩ = some (.int .i64 a0_1) := (blk_cell BK344.out 1).trans rfl
    have hfz24_0 := blk_frozen BK344.out 0
    have hfz24_1 := blk_frozen BK344.out 1
    go_wp2_with (first | (go_at_call 17; (with_reducible refine (apogeeref10_Right.calls a0_0 a0_1 true _ A8.out).mono ?_); rintro e w25 ⟨rfl, hb⟩; have n0_ := bA (bB BK344 hb); have n1_ := bA (bB BK345 hb); have n2_ := bA (bB BK346 hb); have n3_ := bA (bS hb); clear BK344; clear BK345; clear BK346; clear HB; have BK344 := n0_; have BK345 := n1_; have BK346 := n2_; have HB := n3_; clear n0_ n1_ n2_ n3_; (try clear hb); (try clear hb2); (try clear hk); (try clear hi); have hnb26 := NB345_346.out; have hnc26 := NB346_345.out; have hcz27_0 : w25.cell? ⟨gb345, 0, none⟩ = some (.int .i64 a1_0) := (blk_cell BK345.out 0).trans rfl; have hcz27_1 : w25.cell? ⟨gb345, 1, none⟩ = some (.int .i64 a1_1) := (blk_cell BK345.out 1).trans rfl; have hfz27_0 := blk_frozen BK345.out 0; have hfz27_1 := blk_frozen BK345.out 1) | (go_at_call 17; (with_reducible refine (apogeeref10_Right.calls a1_0 a1_1 false _ A10.out).mono ?_); rintro e w28 ⟨rfl, hb⟩; have n0_ := bA (bB BK344 hb); have n1_ := bA (bB BK345 hb); have n2_ := bA (bB BK346 hb); have n3_ := bA (bS hb); clear BK344; clear BK345; clear BK346; clear HB; have BK344 := n0_; have BK345 := n1_; have BK346 := n2_; have HB := n3_; clear n0_ n1_ n2_ n3_; (try clear hb); (try clear hb2); (try clear hk); (try clear hi)))
    repeat (go_quiet (first | (go_at_call 17; (with_reducible refine (apogeeref10_Right.calls a0_0 a0_1 true _ A8.out).mono ?_); rintro e w25 ⟨rfl, hb⟩; have n0_ := bA (bB BK344 hb); have n1_ := bA (bB BK345 hb); have n2_ := bA (bB BK346 hb); have n3_ := bA (bS hb); clear BK344; clear BK345; clear BK346; clear HB; have BK344 := n0_; have BK345 := n1_; have BK346 := n2_; have HB := n3_; clear n0_ n1_ n2_ n3_; (try clear hb); (try clear hb2); (try clear hk); (try clear hi); have hnb26 := NB345_346.out; have hnc26 := NB346_345.out; have hcz27_0 : w25.cell? ⟨gb345, 0, none⟩ = some (.int .i64 a1_0) := (blk_cell BK345.out 0).trans rfl; have hcz27_1 : w25.cell? ⟨gb345, 1, none⟩ = some (.int .i64 a1_1) := (blk_cell BK345.out 1).trans rfl; have hfz27_0 := blk_frozen BK345.out 0; have hfz27_1 := blk_frozen BK345.out 1) | (go_at_call 17; (with_reducible refine (apogeeref10_Right.calls a1_0 a1_1 false _ A10.out).mono ?_); rintro e w28 ⟨rfl, hb⟩; have n0_ := bA (bB BK344 hb); have n1_ := bA (bB BK345 hb); have n2_ := bA (bB BK346 hb); have n3_ := bA (bS hb); clear BK344; clear BK345; clear BK346; clear HB; have BK344 := n0_; have BK345 := n1_; have BK346 := n2_; have HB := n3_; clear n0_ n1_ n2_ n3_; (try clear hb); (try clear hb2); (try clear hk); (try clear hi))); try go_wp2_with (first | (go_at_call 17; (with_reducible refine (apogeeref10_Right.calls a0_0 a0_1 true _ A8.out).mono ?_); rintro e w25 ⟨rfl, hb⟩; have n0_ := bA (bB BK344 hb); have n1_ := bA (bB BK345 hb); have n2_ := bA (bB BK346 hb); have n3_ := bA (bS hb); clear BK344; clear BK345; clear BK346; clear HB; have BK344 := n0_; have BK345 := n1_; have BK346 := n2_; have HB := n3_; clear n0_ n1_ n2_ n3_; (try clear hb); (try clear hb2); (try clear hk); (try clear hi); have hnb26 := NB345_346.out; have hnc26 := NB346_345.out; have hcz27_0 : w25.cell? ⟨gb345, 0, none⟩ = some (.int .i64 a1_0) := (blk_cell BK345.out 0).trans rfl; have hcz27_1 : w25.cell? ⟨gb345, 1, none⟩ = some (.int .i64 a1_1) := (blk_cell BK345.out 1).trans rfl; have hfz27_0 := blk_frozen BK345.out 0; have hfz27_1 := blk_frozen BK345.out 1) | (go_at_call 17; (with_reducible refine (apogeeref10_Right.calls a1_0 a1_1 false _ A10.out).mono ?_); rintro e w28 ⟨rfl, hb⟩; have n0_ := bA (bB BK344 hb); have n1_ := bA (bB BK345 hb); have n2_ := bA (bB BK346 hb); have n3_ := bA (bS hb); clear BK344; clear BK345; clear BK346; clear HB; have BK344 := n0_; have BK345 := n1_; have BK346 := n2_; have HB := n3_; clear n0_ n1_ n2_ n3_; (try clear hb); (try clear hb2); (try clear hk); (try clear hi))))
    go_meet
    case rel => exact ⟨_, (true), (by first | rfl | (simp; done) | (simp [*]; done)), H', ⟨by first | omega | exact Nat.le_refl _⟩, ⟨by (with_reducible repeat (first | refine blk_drewN ?_ _ | refine blk_drew ?_ | refine blk_alloc ?_ _)); exact BK344.out⟩, ⟨by (with_reducible repeat (first | refine blk_drewN ?_ _ | refine blk_drew ?_ | refine blk_alloc ?_ _)); exact BK345.out⟩, ⟨by (with_reducible repeat (first | refine blk_drewN ?_ _ | refine blk_drew ?_ | refine blk_alloc ?_ _)); exact BK346.out⟩, ⟨bX⟩⟩
  ·replace c9 := Bool.eq_false_iff.mpr c9
   subst c9
   rw [if_neg (show ¬ (false = true) by decide)] at H
   have H' := bA H
   clear H
   have hnb29 := NB344_345.out
   have hnc29 := NB345_344.out
   have hnb30 := NB344_346.out
   have hnc30 := NB346_344.out
   have hcz31_0 : w7.cell? ⟨gb344, 0, none⟩ = some (.int .i64 a0_0) := (blk_cell BK344.out 0).trans rfl
   have hcz31_1 : w7.cell? ⟨gb344, 1, none⟩ = some (.int .i64 a0_1) := (blk_cell BK344.out 1).trans rfl
   have hfz31_0 := blk_frozen BK344.out 0
   have hfz31_1 := blk_frozen BK344.out 1
   go_wp2_with (first | (go_at_call 17; (with_reducible refine (apogeeref10_Right.calls a0_0 a0_1 false _ A8.out).mono ?_); rintro e w32 ⟨rfl, hb⟩; have n0_ := bA (bB BK344 hb); have n1_ := bA (bB BK345 hb); have n2_ := bA (bB BK346 hb); have n3_ := bA (bS hb); clear BK344; clear BK345; clear BK346; clear HB; have BK344 := n0_; have BK345 := n1_; have BK346 := n2_; have HB := n3_; clear n0_ n1_ n2_ n3_; (try clear hb); (try clear hb2); (try clear hk); (try clear hi)))
   repeat (go_quiet (first | (go_at_call 17; (with_reducible refine (apogeeref10_Right.calls a0_0 a0_1 false _ A8.out).mono ?_); rintro e w32 ⟨rfl, hb⟩; have n0_ := bA (bB BK344 hb); have n1_ := bA (bB BK345 hb); have n2_ := bA (bB BK346 hb); have n3_ := bA (bS hb); clear BK344; clear BK345; clear BK346; clear HB; have BK344 := n0_; have BK345 := n1_; have BK346 := n2_; have HB := n3_; clear n0_ n1_ n2_ n3_; (try clear hb); (try clear hb2); (try clear hk); (try clear hi))); try go_wp2_with (first | (go_at_call 17; (with_reducible refine (apogeeref10_Right.calls a0_0 a0_1 false _ A8.out).mono ?_); rintro e w32 ⟨rfl, hb⟩; have n0_ := bA (bB BK344 hb); have n1_ := bA (bB BK345 hb); have n2_ := bA (bB BK346 hb); have n3_ := bA (bS hb); clear BK344; clear BK345; clear BK346; clear HB; have BK344 := n0_; have BK345 := n1_; have BK346 := n2_; have HB := n3_; clear n0_ n1_ n2_ n3_; (try clear hb); (try clear hb2); (try clear hk); (try clear hi))))
   go_meet
   case rel => exact ⟨_, (true), (by first | rfl | (simp; done) | (simp [*]; done)), H', ⟨by first | omega | exact Nat.le_refl _⟩, ⟨by (with_reducible repeat (first | refine blk_drewN ?_ _ | refine blk_drew ?_ | refine blk_alloc ?_ _)); exact BK344.out⟩, ⟨by (with_reducible repeat (first | refine blk_drewN ?_ _ | refine blk_drew ?_ | refine blk_alloc ?_ _)); exact BK345.out⟩, ⟨by (with_reducible repeat (first | refine blk_drewN ?_ _ | refine blk_drew ?_ | refine blk_alloc ?_ _)); exact BK346.out⟩, ⟨bX⟩⟩
 case rest =>
  clear HC4
  try clear c1
  try clear c2
  try clear p2
  try clear c3
  try clear c9
  try clear c11
  try clear c13
  try clear c14
  try clear c17
  try clear c19
  try clear c22
  try clear c23
  try clear c26
  try clear c29
  try clear c30
  try clear hcz15_0
  try clear hcz15_1
  try clear hcz18_0
  try clear hcz18_1
  try clear hcz20_0
  try clear hcz20_1
  try clear hcz24_0
  try clear hcz24_1
  try clear hcz27_0
  try clear hcz27_1
  try clear hcz31_0
  try clear hcz31_1
  try clear hfz15_0
  try clear hfz15_1
  try clear hfz18_0
  try clear hfz18_1
  try clear hfz20_0
  try clear hfz20_1
  try clear hfz24_0
  try clear hfz24_1
  try clear hfz27_0
  try clear hfz27_1
  try clear hfz31_0
  try clear hfz31_1
  obtain ⟨kq, x23_3, rfl, HA, HJ3, BK344, BK345, BK346, HB⟩ := hcut
  cases kq with
  | zero => exact absurd HA.out (by simp [apogeeref10_Turn.j0])
  | succ kj3 =>
   have H := HA.out
   clear HA
   simp only [apogeeref10_Turn.j0] at H
   by_cases c33 : x23_3 = true
   ·subst c33
    rw [if_pos rfl] at H
    obtain rfl := Option.some.inj H
    go_wp2
    repeat (go_quiet (fail); try go_wp2)
    go_ret
    exact bF
   ·replace c33 := Bool.eq_false_iff.mpr c33
    subst c33
    rw [if_neg (show ¬ (false = true) by decide)] at H
    have HC34 := bA H
    clear H
    have hnb35 := NB345_344.out
    have hnc35 := NB344_345.out
    have hnb36 := NB345_346.out
    have hnc36 := NB346_345.out
    have hcz37_0 : wc.cell? ⟨gb345, 0, none⟩ = some (.int .i64 a1_0) := (blk_cell BK345.out 0).trans rfl
    have hcz37_1 : wc.cell? ⟨gb345, 1, none⟩ = some (.int .i64 a1_1) := (blk_cell BK345.out 1).trans rfl
    have hfz37_0 := blk_frozen BK345.out 0
    have hfz37_1 := blk_frozen BK345.out 1
    have hnb38 := NB344_346.out
    have hnc38 := NB346_344.out
    have hcz39_0 : wc.cell? ⟨gb344, 0, none⟩ = some (.int .i64 a0_0) := (blk_cell BK344.out 0).trans rfl
    have hcz39_1 : wc.cell? ⟨gb344, 1, none⟩ = some (.int .i64 a0_1) := (blk_cell BK344.out 1).trans rfl
    have hfz39_0 := blk_frozen BK344.out 0
    have hfz39_1 := blk_frozen BK344.out 1
    have hcz40_0 : wc.cell? ⟨gb346, 0, none⟩ = some (.int .i64 a2_0) := (blk_cell BK346.out 0).trans rfl
    have hcz40_1 : wc.cell? ⟨gb346, 1, none⟩ = some (.int .i64 a2_1) := (blk_cell BK346.out 1).trans rfl
    have hfz40_0 := blk_frozen BK346.out 0
    have hfz40_1 := blk_frozen BK346.out 1
    go_upto_region 4 with (fail)
    repeat (go_quiet (fail); go_upto_region 4 with (fail))
    go_cut [57] (fun v57 wc => ∃ (kq : Nat) (x57_33 : Bool), v57 = .bool x57_33 ∧ Aside0 (apogeeref10_Turn.j1 kq (wrap64 (a1_0 - a0_0)) (wrap64 (a2_1 - a0_1)) (wrap64 (a1_1 - a0_1)) (wrap64 (a2_0 - a0_0)) x57_33 = some r) ∧ Aside0 (kq ≤ kj3) ∧ Aside0 (wc.heap[gb344]? = some (.cells #[.int .i64 a0_0, .int .i64 a0_1] 31 (0, 0))) ∧ Aside0 (wc.heap[gb345]? = some (.cells #[.int .i64 a1_0, .int .i64 a1_1] 31 (0, 0))) ∧ Aside0 (wc.heap[gb346]? = some (.cells #[.int .i64 a2_0, .int .i64 a2_1] 31 (0, 0))) ∧ Aside0 (Below w.heap.size w wc))
    case first =>
     have H := HC34.out
     clear HC34
     replace H := Option.bind_eq_some_iff.mp H
     obtain ⟨t350, A410, H⟩ := H
     replace H : (if t350 = true then ((apogeeref10_short.f (wrap64 (a2_1 - a0_1))).bind fun t351 => (if t351 = true then ((apogeeref10_short.f (wrap64 (a1_1 - a0_1))).bind fun t352 => (if t352 = true then ((apogeeref10_short.f (wrap64 (a2_0 - a0_0))).bind fun t353 => (apogeeref10_Turn.j1 kj3 (wrap64 (a1_0 - a0_0)) (wrap64 (a2_1 - a0_1)) (wrap64 (a1_1 - a0_1)) (wrap64 (a2_0 - a0_0)) t353)) else (apogeeref10_Turn.j1 kj3 (wrap64 (a1_0 - a0_0)) (wrap64 (a2_1 - a0_1)) (wrap64 (a1_1 - a0_1)) (wrap64 (a2_0 - a0_0)) false))) else (apogeeref10_Turn.j1 kj3 (wrap64 (a1_0 - a0_0)) (wrap64 (a2_1 - a0_1)) (wrap64 (a1_1 - a0_1)) (wrap64 (a2_0 - a0_0)) false))) else (apogeeref10_Turn.j1 kj3 (wrap64 (a1_0 - a0_0)) (wrap64 (a2_1 - a0_1)) (wrap64 (a1_1 - a0_1)) (wrap64 (a2_0 - a0_0)) false)) = some r := H
     have A41 := bA A410
     clear A410
     by_cases c42 : t350 = true
     ·subst c42
      rw [if_pos rfl] at H
      replace H := Option.bind_eq_some_iff.mp H
      obtain ⟨t351, A430, H⟩ := H
      replace H : (if t351 = true then ((apogeeref10_short.f (wrap64 (a1_1 - a0_1))).bind fun t352 => (if t352 = true then ((apogeeref10_short.f (wrap64 (a2_0 - a0_0))).bind fun t353 => (apogeeref10_Turn.j1 kj3 (wrap64 (a1_0 - a0_0)) (wrap64 (a2_1 - a0_1)) (wrap64 (a1_1 - a0_1)) (wrap64 (a2_0 - a0_0)) t353)) else (apogeeref10_Turn.j1 kj3 (wrap64 (a1_0 - a0_0)) (wrap64 (a2_1 - a0_1)) (wrap64 (a1_1 - a0_1)) (wrap64 (a2_0 - a0_0)) false))) else (apogeeref10_Turn.j1 kj3 (wrap64 (a1_0 - a0_0)) (wrap64 (a2_1 - a0_1)) (wrap64 (a1_1 - a0_1)) (wrap64 (a2_0 - a0_0)) false)) = some r := H
      have A43 := bA A430
      clear A430
      by_cases c44 : t351 = true
      ·subst c44
       rw [if_pos rfl] at H
       replace H := Option.bind_eq_some_iff.mp H
       obtain ⟨t352, A450, H⟩ := H
       replace H : (if t352 = true then ((apogeeref10_short.f (wrap64 (a2_0 - a0_0))).bind fun t353 => (apogeeref10_Turn.j1 kj3 (wrap64 (a1_0 - a0_0)) (wrap64 (a2_1 - a0_1)) (wrap64 (a1_1 - a0_1)) (wrap64 (a2_0 - a0_0)) t353)) else (apogeeref10_Turn.j1 kj3 (wrap64 (a1_0 - a0_0)) (wrap64 (a2_1 - a0_1)) (wrap64 (a1_1 - a0_1)) (wrap64 (a2_0 - a0_0)) false)) = some r := H
       have A45 := bA A450
       clear A450
       by_cases c46 : t352 = true
       ·subst c46
        rw [if_pos rfl] at H
        replace H := Option.bind_eq_some_iff.mp H
        obtain ⟨t353, A470, H⟩ := H
        replace H : (apogeeref10_Turn.j1 kj3 (wrap64 (a1_0 - a0_0)) (wrap64 (a2_1 - a0_1)) (wrap64 (a1_1 - a0_1)) (wrap64 (a2_0 - a0_0)) t353) = some r := H
        have A47 := bA A470
        clear A470
        have H' := bA H
        clear H
        go_wp2_with (first | (go_at_call 42; (with_reducible refine (apogeeref10_short.calls (wrap64 (a1_0 - a0_0)) true _ A41.out).mono ?_); rintro e w' ⟨rfl, ⟨nd, rfl⟩⟩; (try first | exact ⟨rfl, _, World.drewN_drewN _ _ _⟩ | exact ⟨rfl, _, Eq.trans (World.drewN_drewN _ _ _) (congrArg (World.drewN _) (Nat.add_assoc _ _ _))⟩)) | (go_at_call 42; (with_reducible refine (apogeeref10_short.calls (wrap64 (a2_1 - a0_1)) true _ A43.out).mono ?_); rintro e w' ⟨rfl, ⟨nd, rfl⟩⟩; (try first | exact ⟨rfl, _, World.drewN_drewN _ _ _⟩ | exact ⟨rfl, _, Eq.trans (World.drewN_drewN _ _ _) (congrArg (World.drewN _) (Nat.add_assoc _ _ _))⟩)) | (go_at_call 42; (with_reducible refine (apogeeref10_short.calls (wrap64 (a1_1 - a0_1)) true _ A45.out).mono ?_); rintro e w' ⟨rfl, ⟨nd, rfl⟩⟩; (try first | exact ⟨rfl, _, World.drewN_drewN _ _ _⟩ | exact ⟨rfl, _, Eq.trans (World.drewN_drewN _ _ _) (congrArg (World.drewN _) (Nat.add_assoc _ _ _))⟩)) | (go_at_call 42; (with_reducible refine (apogeeref10_short.calls (wrap64 (a2_0 - a0_0)) t353 _ A47.out).mono ?_); rintro e w' ⟨rfl, ⟨nd, rfl⟩⟩; (try first | exact ⟨rfl, _, World.drewN_drewN _ _ _⟩ | exact ⟨rfl, _, Eq.trans (World.drewN_drewN _ _ _) (congrArg (World.drewN _) (Nat.add_assoc _ _ _))⟩)))
        repeat (go_quiet (first | (go_at_call 42; (with_reducible refine (apogeeref10_short.calls (wrap64 (a1_0 - a0_0)) true _ A41.out).mono ?_); rintro e w' ⟨rfl, ⟨nd, rfl⟩⟩; (try first | exact ⟨rfl, _, World.drewN_drewN _ _ _⟩ | exact ⟨rfl, _, Eq.trans (World.drewN_drewN _ _ _) (congrArg (World.drewN _) (Nat.add_assoc _ _ _))⟩)) | (go_at_call 42; (with_reducible refine (apogeeref10_short.calls (wrap64 (a2_1 - a0_1)) true _ A43.out).mono ?_); rintro e w' ⟨rfl, ⟨nd, rfl⟩⟩; (try first | exact ⟨rfl, _, World.drewN_drewN _ _ _⟩ | exact ⟨rfl, _, Eq.trans (World.drewN_drewN _ _ _) (congrArg (World.drewN _) (Nat.add_assoc _ _ _))⟩)) | (go_at_call 42; (with_reducible refine (apogeeref10_short.calls (wrap64 (a1_1 - a0_1)) true _ A45.out).mono ?_); rintro e w' ⟨rfl, ⟨nd, rfl⟩⟩; (try first | exact ⟨rfl, _, World.drewN_drewN _ _ _⟩ | exact ⟨rfl, _, Eq.trans (World.drewN_drewN _ _ _) (congrArg (World.drewN _) (Nat.add_assoc _ _ _))⟩)) | (go_at_call 42; (with_reducible refine (apogeeref10_short.calls (wrap64 (a2_0 - a0_0)) t353 _ A47.out).mono ?_); rintro e w' ⟨rfl, ⟨nd, rfl⟩⟩; (try first | exact ⟨rfl, _, World.drewN_drewN _ _ _⟩ | exact ⟨rfl, _, Eq.trans (World.drewN_drewN _ _ _) (congrArg (World.drewN _) (Nat.add_assoc _ _ _))⟩))); try go_wp2_with (first | (go_at_call 42; (with_reducible refine (apogeeref10_short.calls (wrap64 (a1_0 - a0_0)) true _ A41.out).mono ?_); rintro e w' ⟨rfl, ⟨nd, rfl⟩⟩; (try first | exact ⟨rfl, _, World.drewN_drewN _ _ _⟩ | exact ⟨rfl, _, Eq.trans (World.drewN_drewN _ _ _) (congrArg (World.drewN _) (Nat.add_assoc _ _ _))⟩)) | (go_at_call 42; (with_reducible refine (apogeeref10_short.calls (wrap64 (a2_1 - a0_1)) true _ A43.out).mono ?_); rintro e w' ⟨rfl, ⟨nd, rfl⟩⟩; (try first | exact ⟨rfl, _, World.drewN_drewN _ _ _⟩ | exact ⟨rfl, _, Eq.trans (World.drewN_drewN _ _ _) (congrArg (World.drewN _) (Nat.add_assoc _ _ _))⟩)) | (go_at_call 42; (with_reducible refine (apogeeref10_short.calls (wrap64 (a1_1 - a0_1)) true _ A45.out).mono ?_); rintro e w' ⟨rfl, ⟨nd, rfl⟩⟩; (try first | exact ⟨rfl, _, World.drewN_drewN _ _ _⟩ | exact ⟨rfl, _, Eq.trans (World.drewN_drewN _ _ _) (congrArg (World.drewN _) (Nat.add_assoc _ _ _))⟩)) | (go_at_call 42; (with_reducible refine (apogeeref10_short.calls (wrap64 (a2_0 - a0_0)) t353 _ A47.out).mono ?_); rintro e w' ⟨rfl, ⟨nd, rfl⟩⟩; (try first | exact ⟨rfl, _, World.drewN_drewN _ _ _⟩ | exact ⟨rfl, _, Eq.trans (World.drewN_drewN _ _ _) (congrArg (World.drewN _) (Nat.add_assoc _ _ _))⟩))))
        go_meet
        case rel => exact ⟨_, (t353), (by first | rfl | (simp; done) | (simp [*]; done)), H', ⟨by have := HJ3.out; first | omega | exact Nat.le_refl _⟩, ⟨by (with_reducible repeat (first | refine blk_drewN ?_ _ | refine blk_drew ?_ | refine blk_alloc ?_ _)); exact BK344.out⟩, ⟨by (with_reducible repeat (first | refine blk_drewN ?_ _ | refine blk_drew ?_ | refine blk_alloc ?_ _)); exact BK345.out⟩, ⟨by (with_reducible repeat (first | refine blk_drewN ?_ _ | refine blk_drew ?_ | refine blk_alloc ?_ _)); exact BK346.out⟩, ⟨bX⟩⟩
       ·replace c46 := Bool.eq_false_iff.mpr c46
        subst c46
        rw [if_neg (show ¬ (false = true) by decide)] at H
        have H' := bA H
        clear H
        go_wp2_with (first | (go_at_call 42; (with_reducible refine (apogeeref10_short.calls (wrap64 (a1_0 - a0_0)) true _ A41.out).mono ?_); rintro e w' ⟨rfl, ⟨nd, rfl⟩⟩; (try first | exact ⟨rfl, _, World.drewN_drewN _ _ _⟩ | exact ⟨rfl, _, Eq.trans (World.drewN_drewN _ _ _) (congrArg (World.drewN _) (Nat.add_assoc _ _ _))⟩)) | (go_at_call 42; (with_reducible refine (apogeeref10_short.calls (wrap64 (a2_1 - a0_1)) true _ A43.out).mono ?_); rintro e w' ⟨rfl, ⟨nd, rfl⟩⟩; (try first | exact ⟨rfl, _, World.drewN_drewN _ _ _⟩ | exact ⟨rfl, _, Eq.trans (World.drewN_drewN _ _ _) (congrArg (World.drewN _) (Nat.add_assoc _ _ _))⟩)) | (go_at_call 42; (with_reducible refine (apogeeref10_short.calls (wrap64 (a1_1 - a0_1)) false _ A45.out).mono ?_); rintro e w' ⟨rfl, ⟨nd, rfl⟩⟩; (try first | exact ⟨rfl, _, World.drewN_drewN _ _ _⟩ | exact ⟨rfl, _, Eq.trans (World.drewN_drewN _ _ _) (congrArg (World.drewN _) (Nat.add_assoc _ _ _))⟩)))
        repeat (go_quiet (first | (go_at_call 42; (with_reducible refine (apogeeref10_short.calls (wrap64 (a1_0 - a0_0)) true _ A41.out).mono ?_); rintro e w' ⟨rfl, ⟨nd, rfl⟩⟩; (try first | exact ⟨rfl, _, World.drewN_drewN _ _ _⟩ | exact ⟨rfl, _, Eq.trans (World.drewN_drewN _ _ _) (congrArg (World.drewN _) (Nat.add_assoc _ _ _))⟩)) | (go_at_call 42; (with_reducible refine (apogeeref10_short.calls (wrap64 (a2_1 - a0_1)) true _ A43.out).mono ?_); rintro e w' ⟨rfl, ⟨nd, rfl⟩⟩; (try first | exact ⟨rfl, _, World.drewN_drewN _ _ _⟩ | exact ⟨rfl, _, Eq.trans (World.drewN_drewN _ _ _) (congrArg (World.drewN _) (Nat.add_assoc _ _ _))⟩)) | (go_at_call 42; (with_reducible refine (apogeeref10_short.calls (wrap64 (a1_1 - a0_1)) false _ A45.out).mono ?_); rintro e w' ⟨rfl, ⟨nd, rfl⟩⟩; (try first | exact ⟨rfl, _, World.drewN_drewN _ _ _⟩ | exact ⟨rfl, _, Eq.trans (World.drewN_drewN _ _ _) (congrArg (World.drewN _) (Nat.add_assoc _ _ _))⟩))); try go_wp2_with (first | (go_at_call 42; (with_reducible refine (apogeeref10_short.calls (wrap64 (a1_0 - a0_0)) true _ A41.out).mono ?_); rintro e w' ⟨rfl, ⟨nd, rfl⟩⟩; (try first | exact ⟨rfl, _, World.drewN_drewN _ _ _⟩ | exact ⟨rfl, _, Eq.trans (World.drewN_drewN _ _ _) (congrArg (World.drewN _) (Nat.add_assoc _ _ _))⟩)) | (go_at_call 42; (with_reducible refine (apogeeref10_short.calls (wrap64 (a2_1 - a0_1)) true _ A43.out).mono ?_); rintro e w' ⟨rfl, ⟨nd, rfl⟩⟩; (try first | exact ⟨rfl, _, World.drewN_drewN _ _ _⟩ | exact ⟨rfl, _, Eq.trans (World.drewN_drewN _ _ _) (congrArg (World.drewN _) (Nat.add_assoc _ _ _))⟩)) | (go_at_call 42; (with_reducible refine (apogeeref10_short.calls (wrap64 (a1_1 - a0_1)) false _ A45.out).mono ?_); rintro e w' ⟨rfl, ⟨nd, rfl⟩⟩; (try first | exact ⟨rfl, _, World.drewN_drewN _ _ _⟩ | exact ⟨rfl, _, Eq.trans (World.drewN_drewN _ _ _) (congrArg (World.drewN _) (Nat.add_assoc _ _ _))⟩))))
        go_meet
        case rel => exact ⟨_, (false), (by first | rfl | (simp; done) | (simp [*]; done)), H', ⟨by have := HJ3.out; first | omega | exact Nat.le_refl _⟩, ⟨by (with_reducible repeat (first | refine blk_drewN ?_ _ | refine blk_drew ?_ | refine blk_alloc ?_ _)); exact BK344.out⟩, ⟨by (with_reducible repeat (first | refine blk_drewN ?_ _ | refine blk_drew ?_ | refine blk_alloc ?_ _)); exact BK345.out⟩, ⟨by (with_reducible repeat (first | refine blk_drewN ?_ _ | refine blk_drew ?_ | refine blk_alloc ?_ _)); exact BK346.out⟩, ⟨bX⟩⟩
      ·replace c44 := Bool.eq_false_iff.mpr c44
       subst c44
       rw [if_neg (show ¬ (false = true) by decide)] at H
       have H' := bA H
       clear H
       go_wp2_with (first | (go_at_call 42; (with_reducible refine (apogeeref10_short.calls (wrap64 (a1_0 - a0_0)) true _ A41.out).mono ?_); rintro e w' ⟨rfl, ⟨nd, rfl⟩⟩; (try first | exact ⟨rfl, _, World.drewN_drewN _ _ _⟩ | exact ⟨rfl, _, Eq.trans (World.drewN_drewN _ _ _) (congrArg (World.drewN _) (Nat.add_assoc _ _ _))⟩)) | (go_at_call 42; (with_reducible refine (apogeeref10_short.calls (wrap64 (a2_1 - a0_1)) false _ A43.out).mono ?_); rintro e w' ⟨rfl, ⟨nd, rfl⟩⟩; (try first | exact ⟨rfl, _, World.drewN_drewN _ _ _⟩ | exact ⟨rfl, _, Eq.trans (World.drewN_drewN _ _ _) (congrArg (World.drewN _) (Nat.add_assoc _ _ _))⟩)))
       repeat (go_quiet (first | (go_at_call 42; (with_reducible refine (apogeeref10_short.calls (wrap64 (a1_0 - a0_0)) true _ A41.out).mono ?_); rintro e w' ⟨rfl, ⟨nd, rfl⟩⟩; (try first | exact ⟨rfl, _, World.drewN_drewN _ _ _⟩ | exact ⟨rfl, _, Eq.trans (World.drewN_drewN _ _ _) (congrArg (World.drewN _) (Nat.add_assoc _ _ _))⟩)) | (go_at_call 42; (with_reducible refine (apogeeref10_short.calls (wrap64 (a2_1 - a0_1)) false _ A43.out).mono ?_); rintro e w' ⟨rfl, ⟨nd, rfl⟩⟩; (try first | exact ⟨rfl, _, World.drewN_drewN _ _ _⟩ | exact ⟨rfl, _, Eq.trans (World.drewN_drewN _ _ _) (congrArg (World.drewN _) (Nat.add_assoc _ _ _))⟩))); try go_wp2_with (first | (go_at_call 42; (with_reducible refine (apogeeref10_short.calls (wrap64 (a1_0 - a0_0)) true _ A41.out).mono ?_); rintro e w' ⟨rfl, ⟨nd, rfl⟩⟩; (try first | exact ⟨rfl, _, World.drewN_drewN _ _ _⟩ | exact ⟨rfl, _, Eq.trans (World.drewN_drewN _ _ _) (congrArg (World.drewN _) (Nat.add_assoc _ _ _))⟩)) | (go_at_call 42; (with_reducible refine (apogeeref10_short.calls (wrap64 (a2_1 - a0_1)) false _ A43.out).mono ?_); rintro e w' ⟨rfl, ⟨nd, rfl⟩⟩; (try first | exact ⟨rfl, _, World.drewN_drewN _ _ _⟩ | exact ⟨rfl, _, Eq.trans (World.drewN_drewN _ _ _) (congrArg (World.drewN _) (Nat.add_assoc _ _ _))⟩))))
       go_meet
       case rel => exact ⟨_, (false), (by first | rfl | (simp; done) | (simp [*]; done)), H', ⟨by have := HJ3.out; first | omega | exact Nat.le_refl _⟩, ⟨by (with_reducible repeat (first | refine blk_drewN ?_ _ | refine blk_drew ?_ | refine blk_alloc ?_ _)); exact BK344.out⟩, ⟨by (with_reducible repeat (first | refine blk_drewN ?_ _ | refine blk_drew ?_ | refine blk_alloc ?_ _)); exact BK345.out⟩, ⟨by (with_reducible repeat (first | refine blk_drewN ?_ _ | refine blk_drew ?_ | refine blk_alloc ?_ _)); exact BK346.out⟩, ⟨bX⟩⟩
     ·replace c42 := Bool.eq_false_iff.mpr c42
      subst c42
      rw [if_neg (show ¬ (false = true) by decide)] at H
      have H' := bA H
      clear H
      go_wp2_with (first | (go_at_call 42; (with_reducible refine (apogeeref10_short.calls (wrap64 (a1_0 - a0_0)) false _ A41.out).mono ?_); rintro e w' ⟨rfl, ⟨nd, rfl⟩⟩; (try first | exact ⟨rfl, _, World.drewN_drewN _ _ _⟩ | exact ⟨rfl, _, Eq.trans (World.drewN_drewN _ _ _) (congrArg (World.drewN _) (Nat.add_assoc _ _ _))⟩)))
      repeat (go_quiet (first | (go_at_call 42; (with_reducible refine (apogeeref10_short.calls (wrap64 (a1_0 - a0_0)) false _ A41.out).mono ?_); rintro e w' ⟨rfl, ⟨nd, rfl⟩⟩; (try first | exact ⟨rfl, _, World.drewN_drewN _ _ _⟩ | exact ⟨rfl, _, Eq.trans (World.drewN_drewN _ _ _) (congrArg (World.drewN _) (Nat.add_assoc _ _ _))⟩))); try go_wp2_with (first | (go_at_call 42; (with_reducible refine (apogeeref10_short.calls (wrap64 (a1_0 - a0_0)) false _ A41.out).mono ?_); rintro e w' ⟨rfl, ⟨nd, rfl⟩⟩; (try first | exact ⟨rfl, _, World.drewN_drewN _ _ _⟩ | exact ⟨rfl, _, Eq.trans (World.drewN_drewN _ _ _) (congrArg (World.drewN _) (Nat.add_assoc _ _ _))⟩))))
      go_meet
      case rel => exact ⟨_, (false), (by first | rfl | (simp; done) | (simp [*]; done)), H', ⟨by have := HJ3.out; first | omega | exact Nat.le_refl _⟩, ⟨by (with_reducible repeat (first | refine blk_drewN ?_ _ | refine blk_drew ?_ | refine blk_alloc ?_ _)); exact BK344.out⟩, ⟨by (with_reducible repeat (first | refine blk_drewN ?_ _ | refine blk_drew ?_ | refine blk_alloc ?_ _)); exact BK345.out⟩, ⟨by (with_reducible repeat (first | refine blk_drewN ?_ _ | refine blk_drew ?_ | refine blk_alloc ?_ _)); exact BK346.out⟩, ⟨bX⟩⟩
    case rest =>
     clear HC34
     try clear c1
     try clear c2
     try clear p2
     try clear c3
     try clear c4
     try clear p6
     try clear c9
     try clear c11
     try clear c13
     try clear c14
     try clear c17
     try clear c19
     try clear c22
     try clear c23
     try clear c26
     try clear c29
     try clear c30
     try clear c33
     try clear c35
     try clear c36
     try clear c38
     try clear c42
     try clear c44
     try clear c46
     try clear hcz15_0
     try clear hcz15_1
     try clear hcz18_0
     try clear hcz18_1
     try clear hcz20_0
     try clear hcz20_1
     try clear hcz24_0
     try clear hcz24_1
     try clear hcz27_0
     try clear hcz27_1
     try clear hcz31_0
     try clear hcz31_1
     try clear hcz37_0
     try clear hcz37_1
     try clear hcz39_0
     try clear hcz39_1
     try clear hcz40_0
     try clear hcz40_1
     try clear hfz15_0
     try clear hfz15_1
     try clear hfz18_0
     try clear hfz18_1
     try clear hfz20_0
     try clear hfz20_1
     try clear hfz24_0
     try clear hfz24_1
     try clear hfz27_0
     try clear hfz27_1
     try clear hfz31_0
     try clear hfz31_1
     try clear hfz37_0
     try clear hfz37_1
     try clear hfz39_0
     try clear hfz39_1
     try clear hfz40_0
     try clear hfz40_1
     try clear p2
     obtain ⟨kq, x57_33, rfl, HA, HJ33, BK344, BK345, BK346, HB⟩ := hcut
     cases kq with
     | zero => exact absurd HA.out (by simp [apogeeref10_Turn.j1])
     | succ kj33 =>
      have H := HA.out
      clear HA
      simp only [apogeeref10_Turn.j1] at H
      by_cases c48 : x57_33 = true
      ·subst c48
       rw [if_pos rfl] at H
       by_cases c49 : (wrap64 ((wrap64 (a1_0 - a0_0)) * (wrap64 (a2_1 - a0_1)))) < (wrap64 ((wrap64 (a1_1 - a0_1)) * (wrap64 (a2_0 - a0_0))))
       ·rw [if_pos c49] at H
        have c49b0 : decide ((wrap64 ((wrap64 (a1_0 - a0_0)) * (wrap64 (a2_1 - a0_1)))) < (wrap64 ((wrap64 (a1_1 - a0_1)) * (wrap64 (a2_0 - a0_0))))) = true := decide_eq_true c49
        clear c49
        obtain rfl := Option.some.inj H
        go_wp2
        repeat (go_quiet (fail); try go_wp2)
        go_ret
        exact bF
       ·rw [if_neg c49] at H
        have c49b0 : decide ((wrap64 ((wrap64 (a1_0 - a0_0)) * (wrap64 (a2_1 - a0_1)))) < (wrap64 ((wrap64 (a1_1 - a0_1)) * (wrap64 (a2_0 - a0_0))))) = false := decide_eq_false c49
        clear c49
        by_cases c50 : (wrap64 ((wrap64 (a1_0 - a0_0)) * (wrap64 (a2_1 - a0_1)))) > (wrap64 ((wrap64 (a1_1 - a0_1)) * (wrap64 (a2_0 - a0_0))))
        ·rw [if_pos c50] at H
         have c50b0 : decide ((wrap64 ((wrap64 (a1_1 - a0_1)) * (wrap64 (a2_0 - a0_0)))) < (wrap64 ((wrap64 (a1_0 - a0_0)) * (wrap64 (a2_1 - a0_1))))) = true := decide_eq_true c50
         clear c50
         obtain rfl := Option.some.inj H
         go_wp2
         repeat (go_quiet (fail); try go_wp2)
         go_ret
         exact bF
        ·rw [if_neg c50] at H
         have c50b0 : decide ((wrap64 ((wrap64 (a1_1 - a0_1)) * (wrap64 (a2_0 - a0_0)))) < (wrap64 ((wrap64 (a1_0 - a0_0)) * (wrap64 (a2_1 - a0_1))))) = false := decide_eq_false c50
         clear c50
         obtain rfl := Option.some.inj H
         go_wp2
         repeat (go_quiet (fail); try go_wp2)
         go_ret
         exact bF
      ·replace c48 := Bool.eq_false_iff.mpr c48
       subst c48
       rw [if_neg (show ¬ (false = true) by decide)] at H
       replace H := Option.bind_eq_some_iff.mp H
       obtain ⟨⟨t354, t355⟩, A510, H⟩ := H
       replace H : ((apogeeref01_Mul.f kj33 (wrap64 (a1_1 - a0_1)) (wrap64 (a2_0 - a0_0))).bind fun bt356 => ((apogeeref01_Cmp.f kj33 t354 t355 bt356.1 bt356.2).bind fun t358 => (some t358))) = some r := H
       have A51 := bA A510
       clear A510
       replace H := Option.bind_eq_some_iff.mp H
       obtain ⟨⟨t356, t357⟩, A520, H⟩ := H
       replace H : ((apogeeref01_Cmp.f kj33 t354 t355 t356 t357).bind fun t358 => (some t358)) = some r := H
       have A52 := bA A520
       clear A520
       replace H := Option.bind_eq_some_iff.mp H
       obtain ⟨t358, A530, H⟩ := H
       replace H : (some t358) = some r := H
       have A53 := bA A530
       clear A530
       obtain rfl := Option.some.inj H
       go_wp2_with (first | (go_at_call 44; (with_reducible refine (apogeeref01_Mul.calls kj33 (wrap64 (a1_0 - a0_0)) (wrap64 (a2_1 - a0_1)) t354 t355 _ A51.out).mono ?_); rintro e w54 ⟨rfl, hb⟩; have n0_ := bA (bB BK344 hb); have n1_ := bA (bB BK345 hb); have n2_ := bA (bB BK346 hb); have n3_ := bA (bS hb); clear BK344; clear BK345; clear BK346; clear HB; have BK344 := n0_; have BK345 := n1_; have BK346 := n2_; have HB := n3_; clear n0_ n1_ n2_ n3_; (try clear hb); (try clear hb2); (try clear hk); (try clear hi)) | (go_at_call 44; (with_reducible refine (apogeeref01_Mul.calls kj33 (wrap64 (a1_1 - a0_1)) (wrap64 (a2_0 - a0_0)) t356 t357 _ A52.out).mono ?_); rintro e w55 ⟨rfl, hb⟩; have n0_ := bA (bB BK344 hb); have n1_ := bA (bB BK345 hb); have n2_ := bA (bB BK346 hb); have n3_ := bA (bS hb); clear BK344; clear BK345; clear BK346; clear HB; have BK344 := n0_; have BK345 := n1_; have BK346 := n2_; have HB := n3_; clear n0_ n1_ n2_ n3_; (try clear hb); (try clear hb2); (try clear hk); (try clear hi)) | (go_at_call 43; (with_reducible refine (apogeeref01_Cmp.calls kj33 t354 t355 t356 t357 t358 _ A53.out).mono ?_); rintro e w56 ⟨rfl, hb⟩; have n0_ := bA (bB BK344 hb); have n1_ := bA (bB BK345 hb); have n2_ := bA (bB BK346 hb); have n3_ := bA (bS hb); clear BK344; clear BK345; clear BK346; clear HB; have BK344 := n0_; have BK345 := n1_; have BK346 := n2_; have HB := n3_; clear n0_ n1_ n2_ n3_; (try clear hb); (try clear hb2); (try clear hk); (try clear hi)))
       repeat (go_quiet (first | (go_at_call 44; (with_reducible refine (apogeeref01_Mul.calls kj33 (wrap64 (a1_0 - a0_0)) (wrap64 (a2_1 - a0_1)) t354 t355 _ A51.out).mono ?_); rintro e w54 ⟨rfl, hb⟩; have n0_ := bA (bB BK344 hb); have n1_ := bA (bB BK345 hb); have n2_ := bA (bB BK346 hb); have n3_ := bA (bS hb); clear BK344; clear BK345; clear BK346; clear HB; have BK344 := n0_; have BK345 := n1_; have BK346 := n2_; have HB := n3_; clear n0_ n1_ n2_ n3_; (try clear hb); (try clear hb2); (try clear hk); (try clear hi)) | (go_at_call 44; (with_reducible refine (apogeeref01_Mul.calls kj33 (wrap64 (a1_1 - a0_1)) (wrap64 (a2_0 - a0_0)) t356 t357 _ A52.out).mono ?_); rintro e w55 ⟨rfl, hb⟩; have n0_ := bA (bB BK344 hb); have n1_ := bA (bB BK345 hb); have n2_ := bA (bB BK346 hb); have n3_ := bA (bS hb); clear BK344; clear BK345; clear BK346; clear HB; have BK344 := n0_; have BK345 := n1_; have BK346 := n2_; have HB := n3_; clear n0_ n1_ n2_ n3_; (try clear hb); (try clear hb2); (try clear hk); (try clear hi)) | (go_at_call 43; (with_reducible refine (apogeeref01_Cmp.calls kj33 t354 t355 t356 t357 t358 _ A53.out).mono ?_); rintro e w56 ⟨rfl, hb⟩; have n0_ := bA (bB BK344 hb); have n1_ := bA (bB BK345 hb); have n2_ := bA (bB BK346 hb); have n3_ := bA (bS hb); clear BK344; clear BK345; clear BK346; clear HB; have BK344 := n0_; have BK345 := n1_; have BK346 := n2_; have HB := n3_; clear n0_ n1_ n2_ n3_; (try clear hb); (try clear hb2); (try clear hk); (try clear hi))); try go_wp2_with (first | (go_at_call 44; (with_reducible refine (apogeeref01_Mul.calls kj33 (wrap64 (a1_0 - a0_0)) (wrap64 (a2_1 - a0_1)) t354 t355 _ A51.out).mono ?_); rintro e w54 ⟨rfl, hb⟩; have n0_ := bA (bB BK344 hb); have n1_ := bA (bB BK345 hb); have n2_ := bA (bB BK346 hb); have n3_ := bA (bS hb); clear BK344; clear BK345; clear BK346; clear HB; have BK344 := n0_; have BK345 := n1_; have BK346 := n2_; have HB := n3_; clear n0_ n1_ n2_ n3_; (try clear hb); (try clear hb2); (try clear hk); (try clear hi)) | (go_at_call 44; (with_reducible refine (apogeeref01_Mul.calls kj33 (wrap64 (a1_1 - a0_1)) (wrap64 (a2_0 - a0_0)) t356 t357 _ A52.out).mono ?_); rintro e w55 ⟨rfl, hb⟩; have n0_ := bA (bB BK344 hb); have n1_ := bA (bB BK345 hb); have n2_ := bA (bB BK346 hb); have n3_ := bA (bS hb); clear BK344; clear BK345; clear BK346; clear HB; have BK344 := n0_; have BK345 := n1_; have BK346 := n2_; have HB := n3_; clear n0_ n1_ n2_ n3_; (try clear hb); (try clear hb2); (try clear hk); (try clear hi)) | (go_at_call 43; (with_reducible refine (apogeeref01_Cmp.calls kj33 t354 t355 t356 t357 t358 _ A53.out).mono ?_); rintro e w56 ⟨rfl, hb⟩; have n0_ := bA (bB BK344 hb); have n1_ := bA (bB BK345 hb); have n2_ := bA (bB BK346 hb); have n3_ := bA (bS hb); clear BK344; clear BK345; clear BK346; clear HB; have BK344 := n0_; have BK345 := n1_; have BK346 := n2_; have HB := n3_; clear n0_ n1_ n2_ n3_; (try clear hb); (try clear hb2); (try clear hk); (try clear hi))))
       go_ret
       exact bF
/-! ### apogeeref10_On: function 21 -/
def apogeeref10_On.f (k : Nat) (a0_0 : Int) (a0_1 : Int) (a1_0 : Int) (a1_1 : Int) (a2_0 : Int) (a2_1 : Int) : Option (Bool) := (apogeeref10_Right.f a1_0 a1_1).bind fun t362 => (if t362 = true then ((apogeeref10_Right.f a2_0 a2_1).bind fun t363 => (if t363 = true then ((apogeeref10_Right.f a0_0 a0_1).bind fun t364 => (if t364 = true then ((apogeeref10_Turn.f k a1_0 a1_1 a2_0 a2_1 a0_0 a0_1).bind fun t365 => (if t365 = 0 then (if a0_0 ≥ (mn a1_0 a2_0) then (if a0_0 ≤ (mx a1_0 a2_0) then (if a0_1 ≥ (mn a1_1 a2_1) then (some (decide (a0_1 ≤ (mx a1_1 a2_1)))) else (some false)) else (some false)) else (some false)) else (some false))) else (some false))) else (some false))) else (some false))
theorem apogeeref10_On.mono : ∀ a0 a1 a2 a3 a4 a5 k, LeO (apogeeref10_On.f k a0 a1 a2 a3 a4 a5) (apogeeref10_On.f (k + 1) a0 a1 a2 a3 a4 a5) := by
 intro a0 a1 a2 a3 a4 a5 k
 unfold apogeeref10_On.f
 repeat' first
   | (with_reducible exact apogeeref10_Turn.mono _ _ _ _ _ _ _)
   | (with_reducible exact LeO.refl _)
   | (with_reducible exact LeO.none _)
   | (with_reducible refine LeO.ite ?_ ?_)
   | (with_reducible refine LeO.bind ?_ (fun _ => ?_))
   | exact apogeeref10_Turn.mono _ _ _ _ _ _ _
   | exact LeO.none _
   | refine LeO.ite ?_ ?_
   | refine LeO.bind ?_ (fun _ => ?_)
set_option maxHeartbeats 8000000 in
set_option maxRecDepth 100000 in
theorem apogeeref10_On.calls (k : Nat) (a0_0 : Int) (a0_1 : Int) (a1_0 : Int) (a1_1 : Int) (a2_0 : Int) (a2_1 : Int) (r : Bool) (w : World) (h : apogeeref10_On.f k a0_0 a0_1 a1_0 a1_1 a2_0 a2_1 = some r) :
  Calls Try.prog 21 #[.agg #[.int .i64 a0_0, .int .i64 a0_1], .agg #[.int .i64 a1_0, .int .i64 a1_1], .agg #[.int .i64 a2_0, .int .i64 a2_1]] w fun e w' => e = .returned (.bool r) ∧ Below w.heap.size w w' := by
 have hu31 := Try.underlying31
 have HB := bA (Below.refl w.heap.size w)
 have H : ((apogeeref10_Right.f a1_0 a1_1).bind fun t362 => (if t362 = true then ((apogeeref10_Right.f a2_0 a2_1).bind fun t363 => (if t363 = true then ((apogeeref10_Right.f a0_0 a0_1).bind fun t364 => (if t364 = true then ((apogeeref10_Turn.f k a1_0 a1_1 a2_0 a2_1 a0_0 a0_1).bind fun t365 => (if t365 = 0 then (if a0_0 ≥ (mn a1_0 a2_0) then (if a0_0 ≤ (mx a1_0 a2_0) then (if a0_1 ≥ (mn a1_1 a2_1) then (some (decide (a0_1 ≤ (mx a1_1 a2_1)))) else (some false)) else (some false)) else (some false)) else (some false))) else (some false))) else (some false))) else (some false))) = some r := h
 clear h
 replace H := Option.bind_eq_some_iff.mp H
 obtain ⟨t362, A40, H⟩ := H
 replace H : (if t362 = true then ((apogeeref10_Right.f a2_0 a2_1).bind fun t363 => (if t363 = true then ((apogeeref10_Right.f a0_0 a0_1).bind fun t364 => (if t364 = true then ((apogeeref10_Turn.f k a1_0 a1_1 a2_0 a2_1 a0_0 a0_1).bind fun t365 => (if t365 = 0 then (if a0_0 ≥ (mn a1_0 a2_0) then (if a0_0 ≤ (mx a1_0 a2_0) then (if a0_1 ≥ (mn a1_1 a2_1) then (some (decide (a0_1 ≤ (mx a1_1 a2_1)))) else (some false)) else (some false)) else (some false)) else (some false))) else (some false))) else (some false))) else (some false)) = some r := H
 have A4 := bA A40
 clear A40
 by_cases c5 : t362 = true
 subst c5
 rw [if_pos rfl] at H
 replace H := Option.bind_eq_some_iff.mp H
 obtain ⟨t363, A60, H⟩ := H
 replace H : (if t363 = true then ((apogeeref10_Right.f a0_0 a0_1).bind fun t364 => (if t364 = true then ((apogeeref10_Turn.f k a1_0 a1_1 a2_0 a2_1 a0_0 a0_1).bind fun t365 => (if t365 = 0 then (if a0_0 ≥ (mn a1_0 a2_0) then (if a0_0 ≤ (mx a1_0 a2_0) then (if a0_1 ≥ (mn a1_1 a2_1) then (some (decide (a0_1 ≤ (mx a1_1 a2_1)))) else (some false)) else (some false)) else (some false)) else (some false))) else (some false))) else (some false)) = some r := H
 have A6 := bA A60
 clear A60
 by_cases c7 : t363 = true
 subst c7
 rw [if_pos rfl] at H
 replace H := Option.bind_eq_some_iff.mp H
 obtain ⟨t364, A80, H⟩ := H
 replace H : (if t364 = true then ((apogeeref10_Turn.f k a1_0 a1_1 a2_0 a2_1 a0_0 a0_1).bind fun t365 => (if t365 = 0 then (if a0_0 ≥ (mn a1_0 a2_0) then (if a0_0 ≤ (mx a1_0 a2_0) then (if a0_1 ≥ (mn a1_1 a2_1) then (some (decide (a0_1 ≤ (mx a1_1 a2_1)))) else (some false)) else (some false)) else (some false)) else (some false))) else (some false)) = some r := H
 have A8 := bA A80
 clear A80
 by_cases c9 : t364 = true
 subst c9
 rw [if_pos rfl] at H
 replace H := Option.bind_eq_some_iff.mp H
 obtain ⟨t365, A100, H⟩ := H
 replace H : (if t365 = 0 then (if a0_0 ≥ (mn a1_0 a2_0) then (if a0_0 ≤ (mx a1_0 a2_0) then (if a0_1 ≥ (mn a1_1 a2_1) then (some (decide (a0_1 ≤ (mx a1_1 a2_1)))) else (some false)) else (some false)) else (some false)) else (some false)) = some r := H
 have A10 := bA A100
 clear A100
 by_cases c11 : t365 = 0
 rw [if_pos c11] at H
 have c11b0 : (t365 == 0) = true := beq_iff_eq.mpr c11
 have c11b1 : (t365 != 0) = false := bne_eq_false_iff_eq.mpr c11
 clear c11
 obtain ⟨ji12, hji12⟩ : ∃ j_ : Int, (mn a1_0 a2_0) = j_ := ⟨_, rfl⟩
 replace H : (if a0_0 ≥ (ji12) then (if a0_0 ≤ (mx a1_0 a2_0) then (if a0_1 ≥ (mn a1_1 a2_1) then (some (decide (a0_1 ≤ (mx a1_1 a2_1)))) else (some false)) else (some false)) else (some false)) = some r := by first | (rw [hji12] at H; exact H) | (simp only [hji12] at H ⊢; exact H)
 (try rw [hji12] at A4)
 (try rw [hji12] at A6)
 (try rw [hji12] at A8)
 (try rw [hji12] at A10)
 have hji12_ : (if a2_0 < a1_0 then a2_0 else a1_0) = ji12 := hji12
 by_cases c13 : a0_0 ≥ (ji12)
 rw [if_pos c13] at H
 have c13b0 : decide ((ji12) ≤ a0_0) = true := decide_eq_true c13
 clear c13
 obtain ⟨ji14, hji14⟩ : ∃ j_ : Int, (mx a1_0 a2_0) = j_ := ⟨_, rfl⟩
 replace H : (if a0_0 ≤ (ji14) then (if a0_1 ≥ (mn a1_1 a2_1) then (some (decide (a0_1 ≤ (mx a1_1 a2_1)))) else (some false)) else (some false)) = some r := by first | (rw [hji14] at H; exact H) | (simp only [hji14] at H ⊢; exact H)
 (try rw [hji14] at A4)
 (try rw [hji14] at A6)
 (try rw [hji14] at A8)
 (try rw [hji14] at A10)
 have hji14_ : (if a1_0 < a2_0 then a2_0 else a1_0) = ji14 := hji14
 by_cases c15 : a0_0 ≤ (ji14)
 rw [if_pos c15] at H
 have c15b0 : decide (a0_0 ≤ (ji14)) = true := decide_eq_true c15
 clear c15
 obtain ⟨ji16, hji16⟩ : ∃ j_ : Int, (mn a1_1 a2_1) = j_ := ⟨_, rfl⟩
 replace H : (if a0_1 ≥ (ji16) then (some (decide (a0_1 ≤ (mx a1_1 a2_1)))) else (some false)) = some r := by first | (rw [hji16] at H; exact H) | (simp only [hji16] at H ⊢; exact H)
 (try rw [hji16] at A4)
 (try rw [hji16] at A6)
 (try rw [hji16] at A8)
 (try rw [hji16] at A10)
 have hji16_ : (if a2_1 < a1_1 then a2_1 else a1_1) = ji16 := hji16
 by_cases c17 : a0_1 ≥ (ji16)
 rw [if_pos c17] at H
 have c17b0 : decide ((ji16) ≤ a0_1) = true := decide_eq_true c17
 clear c17
 obtain ⟨ji18, hji18⟩ : ∃ j_ : Int, (mx a1_1 a2_1) = j_ := ⟨_, rfl⟩
 replace H : (some (decide (a0_1 ≤ (ji18)))) = some r := by first | (rw [hji18] at H; exact H) | (simp only [hji18] at H ⊢; exact H)
 (try rw [hji18] at A4)
 (try rw [hji18] at A6)
 (try rw [hji18] at A8)
 (try rw [hji18] at A10)
 have hji18_ : (if a1_1 < a2_1 then a2_1 else a1_1) = ji18 := hji18
 obtain rfl := Option.some.inj H
 rotate_left
 rw [if_neg c17] at H
 have c17b0 : decide ((ji16) ≤ a0_1) = false := decide_eq_false c17
 clear c17
 obtain rfl := Option.some.inj H
 rotate_left
 rw [if_neg c15] at H
 have c15b0 : decide (a0_0 ≤ (ji14)) = false := decide_eq_false c15
 clear c15
 obtain rfl := Option.some.inj H
 rotate_left
 rw [if_neg c13] at H
 have c13b0 : decide ((ji12) ≤ a0_0) = false := decide_eq_false c13
 clear c13
 obtain rfl := Option.some.inj H
 rotate_left
 rw [if_neg c11] at H
 have c11b0 : (t365 == 0) = false := beq_eq_false_iff_ne.mpr c11
 have c11b1 : (t365 != 0) = true := bne_iff_ne.mpr c11
 obtain rfl := Option.some.inj H
 rotate_left
 replace c9 := Bool.eq_false_iff.mpr c9
 subst c9
 rw [if_neg (show ¬ (false = true) by decide)] at H
 obtain rfl := Option.some.inj H
 rotate_left
 replace c7 := Bool.eq_false_iff.mpr c7
 subst c7
 rw [if_neg (show ¬ (false = true) by decide)] at H
 obtain rfl := Option.some.inj H
 rotate_left
 replace c5 := Bool.eq_false_iff.mpr c5
 subst c5
 rw [if_neg (show ¬ (false = true) by decide)] at H
 obtain rfl := Option.some.inj H
 rotate_left
 all_goals go_enter Try.func21, Try.ntmps21
 all_goals go_wp2_with (first | ((with_reducible refine gate_dst (N := 3) rfl ?_); (try (refine gate_guard (by rfl) ?_; dsimp only)); refine bE (N := 3) (cs := #[.int .i64 a0_0, .int .i64 a0_1]) (t := 31) ?_; intro gb359 hg wz0 hbox hb; have n0_ := bA (bS hb); have n1_ := bA (hbox); have n2_ := bA ((bZ hg : w.heap.size ≤ gb359)); have n3_ := bA ((bZ hg : w.heap.size ≤ gb359)); clear HB; have HB := n0_; have BK359 := n1_; have GW359 := n2_; have GE359 := n3_; clear n0_ n1_ n2_ n3_; clear hb hbox hg) | ((with_reducible refine gate_dst (N := 4) rfl ?_); (try (refine gate_guard (by rfl) ?_; dsimp only)); refine bE (N := 4) (cs := #[.int .i64 a1_0, .int .i64 a1_1]) (t := 31) ?_; intro gb360 hg wz1 hbox hb; have n0_ := bA (bB BK359 hb); have n1_ := bA (bS hb); have n2_ := bA (hbox); have n3_ := bA ((bZ hg : w.heap.size ≤ gb360)); have n4_ := bA ((bZ hg : w.heap.size ≤ gb360)); have n5_ := bA ((bL BK359 hg : gb359 ≠ gb360)); have n6_ := bA ((bG BK359 hg : gb360 ≠ gb359)); clear BK359; clear HB; have BK359 := n0_; have HB := n1_; have BK360 := n2_; have GW360 := n3_; have GE360 := n4_; have NB359_360 := n5_; have NB360_359 := n6_; clear n0_ n1_ n2_ n3_ n4_ n5_ n6_; clear hb hbox hg) | ((with_reducible refine gate_dst (N := 5) rfl ?_); (try (refine gate_guard (by rfl) ?_; dsimp only)); refine bE (N := 5) (cs := #[.int .i64 a2_0, .int .i64 a2_1]) (t := 31) ?_; intro gb361 hg wz2 hbox hb; have n0_ := bA (bB BK359 hb); have n1_ := bA (bB BK360 hb); have n2_ := bA (bS hb); have n3_ := bA (hbox); have n4_ := bA ((bZ hg : w.heap.size ≤ gb361)); have n5_ := bA ((bZ hg : w.heap.size ≤ gb361)); have n6_ := bA ((bL BK359 hg : gb359 ≠ gb361)); have n7_ := bA ((bG BK359 hg : gb361 ≠ gb359)); have n8_ := bA ((bL BK360 hg : gb360 ≠ gb361)); have n9_ := bA ((bG BK360 hg : gb361 ≠ gb360)); clear BK359; clear BK360; clear HB; have BK359 := n0_; have BK360 := n1_; have HB := n2_; have BK361 := n3_; have GW361 := n4_; have GE361 := n5_; have NB359_361 := n6_; have NB361_359 := n7_; have NB360_361 := n8_; have NB361_360 := n9_; clear n0_ n1_ n2_ n3_ n4_ n5_ n6_ n7_ n8_ n9_; clear hb hbox hg; have hz1 := NB360_359.out; have hz2 := NB359_360.out; have hz3 := NB360_361.out; have hz4 := NB361_360.out; have hz5 : wz2.cell? ⟨gb360, 0, none⟩ = some (.int .i64 a1_0) := (blk_cell BK360.out 0).trans rfl; have hz6 : wz2.cell? ⟨gb360, 1, none⟩ = some (.int .i64 a1_1) := (blk_cell BK360.out 1).trans rfl; have hz7 := blk_frozen BK360.out 0; have hz8 := blk_frozen BK360.out 1) | ((first | ((with_reducible refine gate_callee (f := 17) rfl ?_); refine bC (some 8) Try.func17 #[.agg #[.int .i64 a1_0, .int .i64 a1_1]] ?_) | go_at_call 17); (with_reducible refine (apogeeref10_Right.calls a1_0 a1_1 true _ A4.out).mono ?_); rintro e wz3 ⟨rfl, hb⟩; (first | refine ⟨_, rfl, ?_⟩ | skip); have n0_ := bA (bB BK359 hb); have n1_ := bA (bB BK360 hb); have n2_ := bA (bB BK361 hb); have n3_ := bA (bS hb); clear BK359; clear BK360; clear BK361; clear HB; have BK359 := n0_; have BK360 := n1_; have BK361 := n2_; have HB := n3_; clear n0_ n1_ n2_ n3_; (try clear hb); (try clear hb2); (try clear hk); (try clear hi); have hz9 := NB361_359.out; have hz10 := NB359_361.out; have hz11 : wz3.cell? ⟨gb361, 0, none⟩ = some (.int .i64 a2_0) := (blk_cell BK361.out 0).trans rfl; have hz12 : wz3.cell? ⟨gb361, 1, none⟩ = some (.int .i64 a2_1) := (blk_cell BK361.out 1).trans rfl; have hz13 := blk_frozen BK361.out 0; have hz14 := blk_frozen BK361.out 1) | (go_at_call 17; (with_reducible refine (apogeeref10_Right.calls a2_0 a2_1 true _ A6.out).mono ?_); rintro e wz4 ⟨rfl, hb⟩; have n0_ := bA (bB BK359 hb); have n1_ := bA (bB BK360 hb); have n2_ := bA (bB BK361 hb); have n3_ := bA (bS hb); clear BK359; clear BK360; clear BK361; clear HB; have BK359 := n0_; have BK360 := n1_; have BK361 := n2_; have HB := n3_; clear n0_ n1_ n2_ n3_; (try clear hb); (try clear hb2); (try clear hk); (try clear hi); have hz15 : wz4.cell? ⟨gb359, 0, none⟩ = some (.int .i64 a0_0) := (blk_cell BK359.out 0).trans rfl; have hz16 : wz4.cell? ⟨gb359, 1, none⟩ = some (.int .i64 a0_1) := (blk_cell BK359.out 1).trans rfl; have hz17 := blk_frozen BK359.out 0; have hz18 := blk_frozen BK359.out 1) | (go_at_call 17; (with_reducible refine (apogeeref10_Right.calls a0_0 a0_1 true _ A8.out).mono ?_); rintro e wz5 ⟨rfl, hb⟩; have n0_ := bA (bB BK359 hb); have n1_ := bA (bB BK360 hb); have n2_ := bA (bB BK361 hb); have n3_ := bA (bS hb); clear BK359; clear BK360; clear BK361; clear HB; have BK359 := n0_; have BK360 := n1_; have BK361 := n2_; have HB := n3_; clear n0_ n1_ n2_ n3_; (try clear hb); (try clear hb2); (try clear hk); (try clear hi); have hz19 : wz5.cell? ⟨gb360, 0, none⟩ = some (.int .i64 a1_0) := (blk_cell BK360.out 0).trans rfl; have hz20 : wz5.cell? ⟨gb360, 1, none⟩ = some (.int .i64 a1_1) := (blk_cell BK360.out 1).trans rfl; have hz7 := blk_frozen BK360.out 0; have hz8 := blk_frozen BK360.out 1; have hz21 : wz5.cell? ⟨gb361, 0, none⟩ = some (.int .i64 a2_0) := (blk_cell BK361.out 0).trans rfl; have hz22 : wz5.cell? ⟨gb361, 1, none⟩ = some (.int .i64 a2_1) := (blk_cell BK361.out 1).trans rfl; have hz13 := blk_frozen BK361.out 0; have hz14 := blk_frozen BK361.out 1; have hz23 : wz5.cell? ⟨gb359, 0, none⟩ = some (.int .i64 a0_0) := (blk_cell BK359.out 0).trans rfl; have hz24 : wz5.cell? ⟨gb359, 1, none⟩ = some (.int .i64 a0_1) := (blk_cell BK359.out 1).trans rfl; have hz17 := blk_frozen BK359.out 0; have hz18 := blk_frozen BK359.out 1) | (go_at_call 19; (with_reducible refine (apogeeref10_Turn.calls k a1_0 a1_1 a2_0 a2_1 a0_0 a0_1 t365 _ A10.out).mono ?_); rintro e wz6 ⟨rfl, hb⟩; have n0_ := bA (bB BK359 hb); have n1_ := bA (bB BK360 hb); have n2_ := bA (bB BK361 hb); have n3_ := bA (bS hb); clear BK359; clear BK360; clear BK361; clear HB; have BK359 := n0_; have BK360 := n1_; have BK361 := n2_; have HB := n3_; clear n0_ n1_ n2_ n3_; (try clear hb); (try clear hb2); (try clear hk); (try clear hi); have hz25 : wz6.cell? ⟨gb359, 0, none⟩ = some (.int .i64 a0_0) := (blk_cell BK359.out 0).trans rfl; have hz26 : wz6.cell? ⟨gb359, 1, none⟩ = some (.int .i64 a0_1) := (blk_cell BK359.out 1).trans rfl; have hz17 := blk_frozen BK359.out 0; have hz18 := blk_frozen BK359.out 1; have hz27 : wz6.cell? ⟨gb360, 0, none⟩ = some (.int .i64 a1_0) := (blk_cell BK360.out 0).trans rfl; have hz28 : wz6.cell? ⟨gb360, 1, none⟩ = some (.int .i64 a1_1) := (blk_cell BK360.out 1).trans rfl; have hz7 := blk_frozen BK360.out 0; have hz8 := blk_frozen BK360.out 1; have hz29 : wz6.cell? ⟨gb361, 0, none⟩ = some (.int .i64 a2_0) := (blk_cell BK361.out 0).trans rfl; have hz30 : wz6.cell? ⟨gb361, 1, none⟩ = some (.int .i64 a2_1) := (blk_cell BK361.out 1).trans rfl; have hz13 := blk_frozen BK361.out 0; have hz14 := blk_frozen BK361.out 1) | (go_at_call 17; (with_reducible refine (apogeeref10_Right.calls a0_0 a0_1 false _ A8.out).mono ?_); rintro e wz5 ⟨rfl, hb⟩; have n0_ := bA (bB BK359 hb); have n1_ := bA (bB BK360 hb); have n2_ := bA (bB BK361 hb); have n3_ := bA (bS hb); clear BK359; clear BK360; clear BK361; clear HB; have BK359 := n0_; have BK360 := n1_; have BK361 := n2_; have HB := n3_; clear n0_ n1_ n2_ n3_; (try clear hb); (try clear hb2); (try clear hk); (try clear hi)) | (go_at_call 17; (with_reducible refine (apogeeref10_Right.calls a2_0 a2_1 false _ A6.out).mono ?_); rintro e wz4 ⟨rfl, hb⟩; have n0_ := bA (bB BK359 hb); have n1_ := bA (bB BK360 hb); have n2_ := bA (bB BK361 hb); have n3_ := bA (bS hb); clear BK359; clear BK360; clear BK361; clear HB; have BK359 := n0_; have BK360 := n1_; have BK361 := n2_; have HB := n3_; clear n0_ n1_ n2_ n3_; (try clear hb); (try clear hb2); (try clear hk); (try clear hi)) | ((first | ((with_reducible refine gate_callee (f := 17) rfl ?_); refine bC (some 8) Try.func17 #[.agg #[.int .i64 a1_0, .int .i64 a1_1]] ?_) | go_at_call 17); (with_reducible refine (apogeeref10_Right.calls a1_0 a1_1 false _ A4.out).mono ?_); rintro e wz3 ⟨rfl, hb⟩; (first | refine ⟨_, rfl, ?_⟩ | skip); have n0_ := bA (bB BK359 hb); have n1_ := bA (bB BK360 hb); have n2_ := bA (bB BK361 hb); have n3_ := bA (bS hb); clear BK359; clear BK360; clear BK361; clear HB; have BK359 := n0_; have BK360 := n1_; have BK361 := n2_; have HB := n3_; clear n0_ n1_ n2_ n3_; (try clear hb); (try clear hb2); (try clear hk); (try clear hi)))
 ·go_ret
  exact ⟨by first | rfl | (simp [errW_none, errW_some] <;> rfl) | (simp only [← hji12, ← hji14, ← hji16, ← hji18]; first | rfl | (simp [errW_none, errW_some] <;> rfl)) | (simp [*, errW_none, errW_some] <;> rfl), by repeat (first | (with_reducible first | exact HB.out | apply below_alloc | apply pw_below_drewN | apply below_drew1 | refine below_set ?_ GE359.out | refine below_set ?_ GE360.out | refine below_set ?_ GE361.out) | exact HB.out)⟩
 ·go_ret
  exact ⟨by first | rfl | (simp [errW_none, errW_some] <;> rfl) | (simp only [← hji12, ← hji14, ← hji16]; first | rfl | (simp [errW_none, errW_some] <;> rfl)) | (simp [*, errW_none, errW_some] <;> rfl), by repeat (first | (with_reducible first | exact HB.out | apply below_alloc | apply pw_below_drewN | apply below_drew1 | refine below_set ?_ GE359.out | refine below_set ?_ GE360.out | refine below_set ?_ GE361.out) | exact HB.out)⟩
 ·go_ret
  exact ⟨by first | rfl | (simp [errW_none, errW_some] <;> rfl) | (simp only [← hji12, ← hji14]; first | rfl | (simp [errW_none, errW_some] <;> rfl)) | (simp [*, errW_none, errW_some] <;> rfl), by repeat (first | (with_reducible first | exact HB.out | apply below_alloc | apply pw_below_drewN | apply below_drew1 | refine below_set ?_ GE359.out | refine below_set ?_ GE360.out | refine below_set ?_ GE361.out) | exact HB.out)⟩
 ·go_ret
  exact ⟨by first | rfl | (simp [errW_none, errW_some] <;> rfl) | (simp only [← hji12]; first | rfl | (simp [errW_none, errW_some] <;> rfl)) | (simp [*, errW_none, errW_some] <;> rfl), by repeat (first | (with_reducible first | exact HB.out | apply below_alloc | apply pw_below_drewN | apply below_drew1 | refine below_set ?_ GE359.out | refine below_set ?_ GE360.out | refine below_set ?_ GE361.out) | exact HB.out)⟩
 ·go_ret
  exact bF
 ·go_ret
  exact bF
 ·go_ret
  exact bF
 ·go_ret
  exact bF
end Go.Proofs.Ytlifeghjcgbfnaa.G
