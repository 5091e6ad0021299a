-- Written by a program of this session out of the translation; Lean checks it.
import Derived.Test.YtfeekdoakoabeaaGx0
import Derived.Test.YtfeekdoakoabeaaGx17
import Derived.Test.YtfeekdoakoabeaaGx19
namespace Go.Proofs.Ytfeekdoakoabeaa.G
open Go.RowKit Go.Proofs.YtfeekdoakoabeaaW.PrintWords Go.Proofs.YtfeekdoakoabeaaW.PrintLast Go.Proofs.YtfeekdoakoabeaaW.PrintMore
attribute [local go_sem] max2_int min2_int max_two min_two max_three min_three max_four min_four   -- for this text's walks alone
set_option linter.unusedVariables false
set_option linter.unusedSimpArgs false

/-! ### apogeeref10_Meet: function 64 -/
mutual
def apogeeref10_Meet.j0 : Nat → Bool → Int → Int → Int → Int → Int → Int → Int → Int → Option (Bool)
 | 0, _, _, _, _, _, _, _, _, _ => none
 | k + 1, x26, x465000, x465001, x466000, x466001, x467000, x467001, x468000, x468001 => if x26 = true then (some false) else ((apogeeref10_On.f k x465000 x465001 x467000 x467001 x468000 x468001).bind fun t472 => (if t472 = true then (apogeeref10_Meet.j1 k true x465000 x465001 x466000 x466001 x467000 x467001 x468000 x468001) else ((apogeeref10_On.f k x466000 x466001 x467000 x467001 x468000 x468001).bind fun t473 => (if t473 = true then (apogeeref10_Meet.j1 k true x465000 x465001 x466000 x466001 x467000 x467001 x468000 x468001) else ((apogeeref10_On.f k x467000 x467001 x465000 x465001 x466000 x466001).bind fun t474 => (if t474 = true then (apogeeref10_Meet.j1 k true x465000 x465001 x466000 x466001 x467000 x467001 x468000 x468001) else ((apogeeref10_On.f k x468000 x468001 x465000 x465001 x466000 x466001).bind fun t475 => (apogeeref10_Meet.j1 k t475 x465000 x465001 x466000 x466001 x467000 x467001 x468000 x468001))))))))
def apogeeref10_Meet.j1 : Nat → Bool → Int → Int → Int → Int → Int → Int → Int → Int → Option (Bool)
 | 0, _, _, _, _, _, _, _, _, _ => none
 | k + 1, x48, x465000, x465001, x466000, x466001, x467000, x467001, x468000, x468001 => if x48 = true then (some true) else ((apogeeref10_Turn.f k x465000 x465001 x466000 x466001 x467000 x467001).bind fun t476 => ((apogeeref10_Turn.f k x465000 x465001 x466000 x466001 x468000 x468001).bind fun t477 => (if (wrap64 (t476 * t477)) < 0 then ((apogeeref10_Turn.f k x467000 x467001 x468000 x468001 x465000 x465001).bind fun t478 => ((apogeeref10_Turn.f k x467000 x467001 x468000 x468001 x466000 x466001).bind fun t479 => (some (decide ((wrap64 (t478 * t479)) < 0))))) else (some false))))
end
def apogeeref10_Meet.f (k : Nat) (a0_0 : Int) (a0_1 : Int) (a1_0 : Int) (a1_1 : Int) (a2_0 : Int) (a2_1 : Int) (a3_0 : Int) (a3_1 : Int) : Option (Bool) := (apogeeref10_Right.f a0_0 a0_1).bind fun t468 => (if t468 = true then ((apogeeref10_Right.f a1_0 a1_1).bind fun t469 => (if t469 = true then ((apogeeref10_Right.f a2_0 a2_1).bind fun t470 => (if t470 = true then ((apogeeref10_Right.f a3_0 a3_1).bind fun t471 => (apogeeref10_Meet.j0 k (!t471) a0_0 a0_1 a1_0 a1_1 a2_0 a2_1 a3_0 a3_1)) else (apogeeref10_Meet.j0 k true a0_0 a0_1 a1_0 a1_1 a2_0 a2_1 a3_0 a3_1))) else (apogeeref10_Meet.j0 k true a0_0 a0_1 a1_0 a1_1 a2_0 a2_1 a3_0 a3_1))) else (apogeeref10_Meet.j0 k true a0_0 a0_1 a1_0 a1_1 a2_0 a2_1 a3_0 a3_1))
theorem apogeeref10_Meet.mono_l : ∀ k, (∀ y0 y1 y2 y3 y4 y5 y6 y7 y8, LeO (apogeeref10_Meet.j0 k y0 y1 y2 y3 y4 y5 y6 y7 y8) (apogeeref10_Meet.j0 (k + 1) y0 y1 y2 y3 y4 y5 y6 y7 y8)) ∧ (∀ y0 y1 y2 y3 y4 y5 y6 y7 y8, LeO (apogeeref10_Meet.j1 k y0 y1 y2 y3 y4 y5 y6 y7 y8) (apogeeref10_Meet.j1 (k + 1) y0 y1 y2 y3 y4 y5 y6 y7 y8))
 | 0 => ⟨fun _ _ _ _ _ _ _ _ _ r h => by simp [apogeeref10_Meet.j0] at h, fun _ _ _ _ _ _ _ _ _ r h => by simp [apogeeref10_Meet.j1] at h⟩
 | k + 1 => by
  obtain ⟨ih0, ih1⟩ := apogeeref10_Meet.mono_l k
  refine ⟨?_, ?_⟩
  ·intro y0 y1 y2 y3 y4 y5 y6 y7 y8
   unfold apogeeref10_Meet.j0
   have m0_ := @apogeeref10_On.mono
   have m1_ := @apogeeref10_Turn.mono
   exact bMo
  ·intro y0 y1 y2 y3 y4 y5 y6 y7 y8
   unfold apogeeref10_Meet.j1
   have m0_ := @apogeeref10_On.mono
   have m1_ := @apogeeref10_Turn.mono
   exact bMo
theorem apogeeref10_Meet.mono : ∀ a0 a1 a2 a3 a4 a5 a6 a7 k, LeO (apogeeref10_Meet.f k a0 a1 a2 a3 a4 a5 a6 a7) (apogeeref10_Meet.f (k + 1) a0 a1 a2 a3 a4 a5 a6 a7) := by
 intro a0 a1 a2 a3 a4 a5 a6 a7 k
 obtain ⟨ih0, ih1⟩ := apogeeref10_Meet.mono_l k
 unfold apogeeref10_Meet.f
 have m0_ := @apogeeref10_On.mono
 have m1_ := @apogeeref10_Turn.mono
 exact bMo
def apogeeref10_Meet.T5 : Bool × List (List Nat × List Nat) := (true, [([], []), ([], []), ([], []), ([0, 1, 2], [0, 1, 2]), ([], []), ([], []), ([], []), ([4, 5, 6, 3], [4, 5, 6]), ([3, 7], [3, 7]), ([8], [8]), ([9, 7], [9]), ([10], [10]), ([10], [10]), ([10], [10]), ([11, 12, 13, 10, 10], [10, 11, 12, 13]), ([10], [10]), ([10], [10]), ([10], [10]), ([15, 16, 17, 14, 10], [10, 15, 16, 17]), ([14, 18, 10], [10, 14, 18]), ([19, 10], [10, 19]), ([10, 20], [10, 20]), ([21, 18, 0, 1, 2, 3, 4, 5, 6, 7, 8, 9, 10, 11, 12, 13, 14, 15, 16, 17, 18, 19, 20, 21], [21])])
def apogeeref10_Meet.B5 : List Nat := [0, 0, 0, 7, 0, 0, 0, 127, 255, 511, 1023, 2047, 2047, 2047, 16383, 2047, 2047, 2047, 262143, 524287, 1048575, 2097151, 4194303]
theorem apogeeref10_Meet.tab5 : rtab .any (opsOf Try.f64 5) = apogeeref10_Meet.T5 := by kernel_rfl
theorem apogeeref10_Meet.bits5 : waitsOk apogeeref10_Meet.T5.2 apogeeref10_Meet.B5 = true := by kernel_rfl
set_option maxHeartbeats 8000000 in
set_option maxRecDepth 100000 in
theorem apogeeref10_Meet.calls (k : Nat) (a0_0 : Int) (a0_1 : Int) (a1_0 : Int) (a1_1 : Int) (a2_0 : Int) (a2_1 : Int) (a3_0 : Int) (a3_1 : Int) (r : Bool) (w : World) (h : apogeeref10_Meet.f k a0_0 a0_1 a1_0 a1_1 a2_0 a2_1 a3_0 a3_1 = some r) :
  Calls Try.prog 64 #[.agg #[.int .i64 a0_0, .int .i64 a0_1], .agg #[.int .i64 a1_0, .int .i64 a1_1], .agg #[.int .i64 a2_0, .int .i64 a2_1], .agg #[.int .i64 a3_0, .int .i64 a3_1]] w fun e w' => e = .returned (.bool r) ∧ Below w.heap.size w w' := by
 have hu28 := Try.underlying28
 have HB := bA (Below.refl w.heap.size w)
 have H : ((apogeeref10_Right.f a0_0 a0_1).bind fun t468 => (if t468 = true then ((apogeeref10_Right.f a1_0 a1_1).bind fun t469 => (if t469 = true then ((apogeeref10_Right.f a2_0 a2_1).bind fun t470 => (if t470 = true then ((apogeeref10_Right.f a3_0 a3_1).bind fun t471 => (apogeeref10_Meet.j0 k (!t471) a0_0 a0_1 a1_0 a1_1 a2_0 a2_1 a3_0 a3_1)) else (apogeeref10_Meet.j0 k true a0_0 a0_1 a1_0 a1_1 a2_0 a2_1 a3_0 a3_1))) else (apogeeref10_Meet.j0 k true a0_0 a0_1 a1_0 a1_1 a2_0 a2_1 a3_0 a3_1))) else (apogeeref10_Meet.j0 k true a0_0 a0_1 a1_0 a1_1 a2_0 a2_1 a3_0 a3_1))) = some r := h
 clear h
 have HC5 := bA H
 clear H
 go_enter Try.func64, Try.ntmps64
 go_upto_region 1 with (first | ((with_reducible refine gate_dst (N := 4) rfl ?_); refine bE (N := 4) (cs := #[.int .i64 a0_0, .int .i64 a0_1]) (t := 28) ?_; intro gb464 hg w6 hbox hb; have n0_ := bA (bS hb); have n1_ := bA (hbox); have n2_ := bA (bZ hg); have n3_ := bA (bZ hg); clear HB; have HB := n0_; have BK464 := n1_; have GW464 := n2_; have GE464 := n3_; clear n0_ n1_ n2_ n3_; clear hb hbox hg) | ((with_reducible refine gate_dst (N := 5) rfl ?_); refine bE (N := 5) (cs := #[.int .i64 a1_0, .int .i64 a1_1]) (t := 28) ?_; intro gb465 hg w7 hbox hb; have n0_ := bA (bB BK464 hb); have n1_ := bA (bS hb); have n2_ := bA (hbox); have n3_ := bA (bZ hg); have n4_ := bA (bZ hg); have n5_ := bA (bL BK464 hg); have n6_ := bA (bG BK464 hg); clear BK464; clear HB; have BK464 := n0_; have HB := n1_; have BK465 := n2_; have GW465 := n3_; have GE465 := n4_; have NB464_465 := n5_; have NB465_464 := n6_; clear n0_ n1_ n2_ n3_ n4_ n5_ n6_; clear hb hbox hg) | ((with_reducible refine gate_dst (N := 6) rfl ?_); refine bE (N := 6) (cs := #[.int .i64 a2_0, .int .i64 a2_1]) (t := 28) ?_; intro gb466 hg w8 hbox hb; have n0_ := bA (bB BK464 hb); have n1_ := bA (bB BK465 hb); have n2_ := bA (bS hb); have n3_ := bA (hbox); have n4_ := bA (bZ hg); have n5_ := bA (bZ hg); have n6_ := bA (bL BK464 hg); have n7_ := bA (bG BK464 hg); have n8_ := bA (bL BK465 hg); have n9_ := bA (bG BK465 hg); clear BK464; clear BK465; clear HB; have BK464 := n0_; have BK465 := n1_; have HB := n2_; have BK466 := n3_; have GW466 := n4_; have GE466 := n5_; have NB464_466 := n6_; have NB466_464 := n7_; have NB465_466 := n8_; have NB466_465 := n9_; clear n0_ n1_ n2_ n3_ n4_ n5_ n6_ n7_ n8_ n9_; clear hb hbox hg) | ((with_reducible refine gate_dst (N := 7) rfl ?_); refine bE (N := 7) (cs := #[.int .i64 a3_0, .int .i64 a3_1]) (t := 28) ?_; intro gb467 hg w9 hbox hb; have n0_ := bA (bB BK464 hb); have n1_ := bA (bB BK465 hb); have n2_ := bA (bB BK466 hb); have n3_ := bA (bS hb); have n4_ := bA (hbox); have n5_ := bA (bZ hg); have n6_ := bA (bZ hg); have n7_ := bA (bL BK464 hg); have n8_ := bA (bG BK464 hg); have n9_ := bA (bL BK465 hg); have n10_ := bA (bG BK465 hg); have n11_ := bA (bL BK466 hg); have n12_ := bA (bG BK466 hg); clear BK464; clear BK465; clear BK466; clear HB; have BK464 := n0_; have BK465 := n1_; have BK466 := n2_; have HB := n3_; have BK467 := n4_; have GW467 := n5_; have GE467 := n6_; have NB464_467 := n7_; have NB467_464 := n8_; have NB465_467 := n9_; have NB467_465 := n10_; have NB466_467 := n11_; have NB467_466 := n12_; clear n0_ n1_ n2_ n3_ n4_ n5_ n6_ n7_ n8_ n9_ n10_ n11_ n12_; clear hb hbox hg))
 (try simp only [Act.put, List.setIfInBounds_toArray, List.set_cons_zero, List.set_cons_succ])
 go_cut [26] (fun v26 wc => ∃ (kq : Nat) (x26_4 : Bool), v26 = .bool x26_4 ∧ Aside0 (apogeeref10_Meet.j0 kq x26_4 a0_0 a0_1 a1_0 a1_1 a2_0 a2_1 a3_0 a3_1 = some r) ∧ Aside0 (kq ≤ k) ∧ Aside0 (wc.heap[gb464]? = some (.cells #[.int .i64 a0_0, .int .i64 a0_1] 28 (0, 0))) ∧ Aside0 (wc.heap[gb465]? = some (.cells #[.int .i64 a1_0, .int .i64 a1_1] 28 (0, 0))) ∧ Aside0 (wc.heap[gb466]? = some (.cells #[.int .i64 a2_0, .int .i64 a2_1] 28 (0, 0))) ∧ Aside0 (wc.heap[gb467]? = some (.cells #[.int .i64 a3_0, .int .i64 a3_1] 28 (0, 0))) ∧ Aside0 (Below w.heap.size w wc))
 case first =>
  have H := HC5.out
  clear HC5
  replace H := Option.bind_eq_some_iff.mp H
  obtain ⟨t468, A100, H⟩ := H
  have A10 := bA A100
  clear A100
  by_cases c11 : t468 = true
  subst c11
  rw [if_pos rfl] at H
  replace H := Option.bind_eq_some_iff.mp H
  obtain ⟨t469, A120, H⟩ := H
  have A12 := bA A120
  clear A120
  by_cases c13 : t469 = true
  subst c13
  rw [if_pos rfl] at H
  replace H := Option.bind_eq_some_iff.mp H
  obtain ⟨t470, A140, H⟩ := H
  have A14 := bA A140
  clear A140
  by_cases c15 : t470 = true
  subst c15
  rw [if_pos rfl] at H
  replace H := Option.bind_eq_some_iff.mp H
  obtain ⟨t471, A160, H⟩ := H
  have A16 := bA A160
  clear A160
  have H' := bA H
  clear H
  have hnb17 := NB464_465.out
  have hnc17 := NB465_464.out
  have hnb18 := NB464_466.out
  have hnc18 := NB466_464.out
  have hnb19 := NB464_467.out
  have hnc19 := NB467_464.out
  obtain ⟨hcz20_0, hcz20_1, hfz20_0, hfz20_1⟩ := bc2 BK464
  rotate_left
  replace c15 := Bool.eq_false_iff.mpr c15
  subst c15
  rw [if_neg bn] at H
  have H' := bA H
  clear H
  have hnb31 := NB464_465.out
  have hnc31 := NB465_464.out
  have hnb32 := NB464_466.out
  have hnc32 := NB466_464.out
  have hnb33 := NB464_467.out
  have hnc33 := NB467_464.out
  obtain ⟨hcz34_0, hcz34_1, hfz34_0, hfz34_1⟩ := bc2 BK464
  rotate_left
  replace c13 := Bool.eq_false_iff.mpr c13
  subst c13
  rw [if_neg bn] at H
  have H' := bA H
  clear H
  have hnb43 := NB464_465.out
  have hnc43 := NB465_464.out
  have hnb44 := NB464_466.out
  have hnc44 := NB466_464.out
  have hnb45 := NB464_467.out
  have hnc45 := NB467_464.out
  obtain ⟨hcz46_0, hcz46_1, hfz46_0, hfz46_1⟩ := bc2 BK464
  rotate_left
  replace c11 := Bool.eq_false_iff.mpr c11
  subst c11
  rw [if_neg bn] at H
  have H' := bA H
  clear H
  have hnb52 := NB464_465.out
  have hnc52 := NB465_464.out
  have hnb53 := NB464_466.out
  have hnc53 := NB466_464.out
  have hnb54 := NB464_467.out
  have hnc54 := NB467_464.out
  obtain ⟨hcz55_0, hcz55_1, hfz55_0, hfz55_1⟩ := bc2 BK464
  rotate_left
  all_goals go_wp2_with (first | ((first | ((with_reducible refine gate_callee (f := 27) rfl ?_); refine bC (some 10) Try.func27 #[.agg #[.int .i64 a0_0, .int .i64 a0_1]] ?_) | go_at_call 27); (with_reducible refine (apogeeref10_Right.calls a0_0 a0_1 true _ A10.out).mono ?_); rintro e wz0 ⟨rfl, hb⟩; (first | refine ⟨_, rfl, ?_⟩ | skip); replace BK464 := bA (bB BK464 hb); replace BK465 := bA (bB BK465 hb); replace BK466 := bA (bB BK466 hb); replace BK467 := bA (bB BK467 hb); replace HB := bA (bS hb); (try clear hb); have hz1 := NB465_466.out; have hz2 := NB466_465.out; have hz3 := NB465_467.out; have hz4 := NB467_465.out; obtain ⟨hz5, hz6, hz7, hz8⟩ := bc2 BK465) | (go_at_call 27; (with_reducible refine (apogeeref10_Right.calls a1_0 a1_1 true _ A12.out).mono ?_); rintro e wz1 ⟨rfl, hb⟩; replace BK464 := bA (bB BK464 hb); replace BK465 := bA (bB BK465 hb); replace BK466 := bA (bB BK466 hb); replace BK467 := bA (bB BK467 hb); replace HB := bA (bS hb); (try clear hb); have hz9 := NB466_467.out; have hz10 := NB467_466.out; obtain ⟨hz11, hz12, hz13, hz14⟩ := bc2 BK466) | (go_at_call 27; (with_reducible refine (apogeeref10_Right.calls a2_0 a2_1 true _ A14.out).mono ?_); rintro e wz2 ⟨rfl, hb⟩; replace BK464 := bA (bB BK464 hb); replace BK465 := bA (bB BK465 hb); replace BK466 := bA (bB BK466 hb); replace BK467 := bA (bB BK467 hb); replace HB := bA (bS hb); (try clear hb); obtain ⟨hz15, hz16, hz17, hz18⟩ := bc2 BK467) | (go_at_call 27; (with_reducible refine (apogeeref10_Right.calls a3_0 a3_1 t471 _ A16.out).mono ?_); rintro e wz3 ⟨rfl, hb⟩; replace BK464 := bA (bB BK464 hb); replace BK465 := bA (bB BK465 hb); replace BK466 := bA (bB BK466 hb); replace BK467 := bA (bB BK467 hb); replace HB := bA (bS hb); (try clear hb)) | (go_at_call 27; (with_reducible refine (apogeeref10_Right.calls a2_0 a2_1 false _ A14.out).mono ?_); rintro e wz2 ⟨rfl, hb⟩; replace BK464 := bA (bB BK464 hb); replace BK465 := bA (bB BK465 hb); replace BK466 := bA (bB BK466 hb); replace BK467 := bA (bB BK467 hb); replace HB := bA (bS hb); (try clear hb)) | (go_at_call 27; (with_reducible refine (apogeeref10_Right.calls a1_0 a1_1 false _ A12.out).mono ?_); rintro e wz1 ⟨rfl, hb⟩; replace BK464 := bA (bB BK464 hb); replace BK465 := bA (bB BK465 hb); replace BK466 := bA (bB BK466 hb); replace BK467 := bA (bB BK467 hb); replace HB := bA (bS hb); (try clear hb)) | ((first | ((with_reducible refine gate_callee (f := 27) rfl ?_); refine bC (some 10) Try.func27 #[.agg #[.int .i64 a0_0, .int .i64 a0_1]] ?_) | go_at_call 27); (with_reducible refine (apogeeref10_Right.calls a0_0 a0_1 false _ A10.out).mono ?_); rintro e wz0 ⟨rfl, hb⟩; (first | refine ⟨_, rfl, ?_⟩ | skip); replace BK464 := bA (bB BK464 hb); replace BK465 := bA (bB BK465 hb); replace BK466 := bA (bB BK466 hb); replace BK467 := bA (bB BK467 hb); replace HB := bA (bS hb); (try clear hb)))
  ·go_meet
   case rel => exact ⟨_, (!t471), bs, H', ⟨by first | omega | exact Nat.le_refl _⟩, ⟨by (with_reducible repeat (first | refine blk_drewN ?_ _ | refine blk_drew ?_ | refine blk_alloc ?_ _)); exact BK464.out⟩, ⟨by (with_reducible repeat (first | refine blk_drewN ?_ _ | refine blk_drew ?_ | refine blk_alloc ?_ _)); exact BK465.out⟩, ⟨by (with_reducible repeat (first | refine blk_drewN ?_ _ | refine blk_drew ?_ | refine blk_alloc ?_ _)); exact BK466.out⟩, ⟨by (with_reducible repeat (first | refine blk_drewN ?_ _ | refine blk_drew ?_ | refine blk_alloc ?_ _)); exact BK467.out⟩, ⟨bX⟩⟩
  ·go_meet
   case rel => exact ⟨_, (true), bs, H', ⟨by first | omega | exact Nat.le_refl _⟩, ⟨by (with_reducible repeat (first | refine blk_drewN ?_ _ | refine blk_drew ?_ | refine blk_alloc ?_ _)); exact BK464.out⟩, ⟨by (with_reducible repeat (first | refine blk_drewN ?_ _ | refine blk_drew ?_ | refine blk_alloc ?_ _)); exact BK465.out⟩, ⟨by (with_reducible repeat (first | refine blk_drewN ?_ _ | refine blk_drew ?_ | refine blk_alloc ?_ _)); exact BK466.out⟩, ⟨by (with_reducible repeat (first | refine blk_drewN ?_ _ | refine blk_drew ?_ | refine blk_alloc ?_ _)); exact BK467.out⟩, ⟨bX⟩⟩
  ·go_meet
   case rel => exact ⟨_, (true), bs, H', ⟨by first | omega | exact Nat.le_refl _⟩, ⟨by (with_reducible repeat (first | refine blk_drewN ?_ _ | refine blk_drew ?_ | refine blk_alloc ?_ _)); exact BK464.out⟩, ⟨by (with_reducible repeat (first | refine blk_drewN ?_ _ | refine blk_drew ?_ | refine blk_alloc ?_ _)); exact BK465.out⟩, ⟨by (with_reducible repeat (first | refine blk_drewN ?_ _ | refine blk_drew ?_ | refine blk_alloc ?_ _)); exact BK466.out⟩, ⟨by (with_reducible repeat (first | refine blk_drewN ?_ _ | refine blk_drew ?_ | refine blk_alloc ?_ _)); exact BK467.out⟩, ⟨bX⟩⟩
  go_meet
  case rel => exact ⟨_, (true), bs, H', ⟨by first | omega | exact Nat.le_refl _⟩, ⟨by (with_reducible repeat (first | refine blk_drewN ?_ _ | refine blk_drew ?_ | refine blk_alloc ?_ _)); exact BK464.out⟩, ⟨by (with_reducible repeat (first | refine blk_drewN ?_ _ | refine blk_drew ?_ | refine blk_alloc ?_ _)); exact BK465.out⟩, ⟨by (with_reducible repeat (first | refine blk_drewN ?_ _ | refine blk_drew ?_ | refine blk_alloc ?_ _)); exact BK466.out⟩, ⟨by (with_reducible repeat (first | refine blk_drewN ?_ _ | refine blk_drew ?_ | refine blk_alloc ?_ _)); exact BK467.out⟩, ⟨bX⟩⟩
 clear HC5
 try clear c1
 try clear c2
 try clear p2
 try clear c3
 try clear c4
 try clear c5
 try clear c6
 try clear c11
 try clear c13
 try clear c15
 try clear c17
 try clear c18
 try clear c19
 try clear c22
 try clear c23
 try clear c26
 try clear c27
 try clear c31
 try clear c32
 try clear c33
 try clear c36
 try clear c37
 try clear c40
 try clear c43
 try clear c44
 try clear c45
 try clear c48
 try clear c49
 try clear c52
 try clear c53
 try clear c54
 try clear hcz20_0
 try clear hcz20_1
 try clear hcz24_0
 try clear hcz24_1
 try clear hcz27_0
 try clear hcz27_1
 try clear hcz29_0
 try clear hcz29_1
 try clear hcz34_0
 try clear hcz34_1
 try clear hcz38_0
 try clear hcz38_1
 try clear hcz41_0
 try clear hcz41_1
 try clear hcz46_0
 try clear hcz46_1
 try clear hcz50_0
 try clear hcz50_1
 try clear hcz55_0
 try clear hcz55_1
 try clear hfz20_0
 try clear hfz20_1
 try clear hfz24_0
 try clear hfz24_1
 try clear hfz27_0
 try clear hfz27_1
 try clear hfz29_0
 try clear hfz29_1
 try clear hfz34_0
 try clear hfz34_1
 try clear hfz38_0
 try clear hfz38_1
 try clear hfz41_0
 try clear hfz41_1
 try clear hfz46_0
 try clear hfz46_1
 try clear hfz50_0
 try clear hfz50_1
 try clear hfz55_0
 try clear hfz55_1
 obtain ⟨kq, x26_4, rfl, HA, HJ4, BK464, BK465, BK466, BK467, HB⟩ := hcut
 cases kq with
 | zero => exact absurd HA.out (by simp [apogeeref10_Meet.j0])
 | succ kj4 =>
  have H := HA.out
  clear HA
  simp only [apogeeref10_Meet.j0] at H
  by_cases c57 : x26_4 = true
  ·subst c57
   rw [if_pos rfl] at H
   obtain rfl := Option.some.inj H
   go_wp2
   go_ret
   exact bF
  replace c57 := Bool.eq_false_iff.mpr c57
  subst c57
  rw [if_neg bn] at H
  have HC58 := bA H
  clear H
  go_upto_region 3 with (fail)
  go_cut [48] (fun v48 wc => ∃ (kq : Nat) (x48_57 : Bool), v48 = .bool x48_57 ∧ Aside0 (apogeeref10_Meet.j1 kq x48_57 a0_0 a0_1 a1_0 a1_1 a2_0 a2_1 a3_0 a3_1 = some r) ∧ Aside0 (kq ≤ kj4) ∧ Aside0 (wc.heap[gb464]? = some (.cells #[.int .i64 a0_0, .int .i64 a0_1] 28 (0, 0))) ∧ Aside0 (wc.heap[gb465]? = some (.cells #[.int .i64 a1_0, .int .i64 a1_1] 28 (0, 0))) ∧ Aside0 (wc.heap[gb466]? = some (.cells #[.int .i64 a2_0, .int .i64 a2_1] 28 (0, 0))) ∧ Aside0 (wc.heap[gb467]? = some (.cells #[.int .i64 a3_0, .int .i64 a3_1] 28 (0, 0))) ∧ Aside0 (Below w.heap.size w wc))
  case first =>
   have H := HC58.out
   clear HC58
   replace H := Option.bind_eq_some_iff.mp H
   obtain ⟨t472, A590, H⟩ := H
   have A59 := bA A590
   clear A590
   by_cases c60 : t472 = true
   subst c60
   rw [if_pos rfl] at H
   have H' := bA H
   clear H
   have hnb61 := NB464_465.out
   have hnc61 := NB465_464.out
   have hnb62 := NB464_466.out
   have hnc62 := NB466_464.out
   have hnb63 := NB464_467.out
   have hnc63 := NB467_464.out
   obtain ⟨hcz64_0, hcz64_1, hfz64_0, hfz64_1⟩ := bc2 BK464
   have hnb65 := NB466_465.out
   have hnc65 := NB465_466.out
   have hnb66 := NB466_467.out
   have hnc66 := NB467_466.out
   obtain ⟨hcz67_0, hcz67_1, hfz67_0, hfz67_1⟩ := bc2 BK466
   have hnb68 := NB467_465.out
   have hnc68 := NB465_467.out
   obtain ⟨hcz69_0, hcz69_1, hfz69_0, hfz69_1⟩ := bc2 BK467
   rotate_left
   replace c60 := Bool.eq_false_iff.mpr c60
   subst c60
   rw [if_neg bn] at H
   replace H := Option.bind_eq_some_iff.mp H
   obtain ⟨t473, A710, H⟩ := H
   have A71 := bA A710
   clear A710
   by_cases c72 : t473 = true
   subst c72
   rw [if_pos rfl] at H
   have H' := bA H
   clear H
   have hnb73 := NB464_465.out
   have hnc73 := NB465_464.out
   have hnb74 := NB464_466.out
   have hnc74 := NB466_464.out
   have hnb75 := NB464_467.out
   have hnc75 := NB467_464.out
   obtain ⟨hcz76_0, hcz76_1, hfz76_0, hfz76_1⟩ := bc2 BK464
   have hnb77 := NB466_465.out
   have hnc77 := NB465_466.out
   have hnb78 := NB466_467.out
   have hnc78 := NB467_466.out
   obtain ⟨hcz79_0, hcz79_1, hfz79_0, hfz79_1⟩ := bc2 BK466
   have hnb80 := NB467_465.out
   have hnc80 := NB465_467.out
   obtain ⟨hcz81_0, hcz81_1, hfz81_0, hfz81_1⟩ := bc2 BK467
   rotate_left
   replace c72 := Bool.eq_false_iff.mpr c72
   subst c72
   rw [if_neg bn] at H
   replace H := Option.bind_eq_some_iff.mp H
   obtain ⟨t474, A870, H⟩ := H
   have A87 := bA A870
   clear A870
   by_cases c88 : t474 = true
   subst c88
   rw [if_pos rfl] at H
   have H' := bA H
   clear H
   have hnb89 := NB464_465.out
   have hnc89 := NB465_464.out
   have hnb90 := NB464_466.out
   have hnc90 := NB466_464.out
   have hnb91 := NB464_467.out
   have hnc91 := NB467_464.out
   obtain ⟨hcz92_0, hcz92_1, hfz92_0, hfz92_1⟩ := bc2 BK464
   have hnb93 := NB466_465.out
   have hnc93 := NB465_466.out
   have hnb94 := NB466_467.out
   have hnc94 := NB467_466.out
   obtain ⟨hcz95_0, hcz95_1, hfz95_0, hfz95_1⟩ := bc2 BK466
   have hnb96 := NB467_465.out
   have hnc96 := NB465_467.out
   obtain ⟨hcz97_0, hcz97_1, hfz97_0, hfz97_1⟩ := bc2 BK467
   rotate_left
   replace c88 := Bool.eq_false_iff.mpr c88
   subst c88
   rw [if_neg bn] at H
   replace H := Option.bind_eq_some_iff.mp H
   obtain ⟨t475, A1070, H⟩ := H
   have A107 := bA A1070
   clear A1070
   have H' := bA H
   clear H
   have hnb108 := NB464_465.out
   have hnc108 := NB465_464.out
   have hnb109 := NB464_466.out
   have hnc109 := NB466_464.out
   have hnb110 := NB464_467.out
   have hnc110 := NB467_464.out
   obtain ⟨hcz111_0, hcz111_1, hfz111_0, hfz111_1⟩ := bc2 BK464
   have hnb112 := NB466_465.out
   have hnc112 := NB465_466.out
   have hnb113 := NB466_467.out
   have hnc113 := NB467_466.out
   obtain ⟨hcz114_0, hcz114_1, hfz114_0, hfz114_1⟩ := bc2 BK466
   have hnb115 := NB467_465.out
   have hnc115 := NB465_467.out
   obtain ⟨hcz116_0, hcz116_1, hfz116_0, hfz116_1⟩ := bc2 BK467
   rotate_left
   all_goals go_wp2_with (first | ((first | ((with_reducible refine gate_callee (f := 63) rfl ?_); refine bC (some 30) Try.func63 #[.agg #[.int .i64 a0_0, .int .i64 a0_1], .agg #[.int .i64 a2_0, .int .i64 a2_1], .agg #[.int .i64 a3_0, .int .i64 a3_1]] ?_) | go_at_call 63); (with_reducible refine (apogeeref10_On.calls kj4 a0_0 a0_1 a2_0 a2_1 a3_0 a3_1 true _ A59.out).mono ?_); rintro e wz0 ⟨rfl, hb⟩; (first | refine ⟨_, rfl, ?_⟩ | skip); replace BK464 := bA (bB BK464 hb); replace BK465 := bA (bB BK465 hb); replace BK466 := bA (bB BK466 hb); replace BK467 := bA (bB BK467 hb); replace HB := bA (bS hb); (try clear hb)) | ((first | ((with_reducible refine gate_callee (f := 63) rfl ?_); refine bC (some 30) Try.func63 #[.agg #[.int .i64 a0_0, .int .i64 a0_1], .agg #[.int .i64 a2_0, .int .i64 a2_1], .agg #[.int .i64 a3_0, .int .i64 a3_1]] ?_) | go_at_call 63); (with_reducible refine (apogeeref10_On.calls kj4 a0_0 a0_1 a2_0 a2_1 a3_0 a3_1 false _ A59.out).mono ?_); rintro e wz0 ⟨rfl, hb⟩; (first | refine ⟨_, rfl, ?_⟩ | skip); replace BK464 := bA (bB BK464 hb); replace BK465 := bA (bB BK465 hb); replace BK466 := bA (bB BK466 hb); replace BK467 := bA (bB BK467 hb); replace HB := bA (bS hb); (try clear hb); obtain ⟨hz1, hz2, hz3, hz4⟩ := bc2 BK465; obtain ⟨hz5, hz6, hz7, hz8⟩ := bc2 BK466; obtain ⟨hz9, hz10, hz11, hz12⟩ := bc2 BK467) | (go_at_call 63; (with_reducible refine (apogeeref10_On.calls kj4 a1_0 a1_1 a2_0 a2_1 a3_0 a3_1 true _ A71.out).mono ?_); rintro e wz1 ⟨rfl, hb⟩; replace BK464 := bA (bB BK464 hb); replace BK465 := bA (bB BK465 hb); replace BK466 := bA (bB BK466 hb); replace BK467 := bA (bB BK467 hb); replace HB := bA (bS hb); (try clear hb)) | (go_at_call 63; (with_reducible refine (apogeeref10_On.calls kj4 a1_0 a1_1 a2_0 a2_1 a3_0 a3_1 false _ A71.out).mono ?_); rintro e wz1 ⟨rfl, hb⟩; replace BK464 := bA (bB BK464 hb); replace BK465 := bA (bB BK465 hb); replace BK466 := bA (bB BK466 hb); replace BK467 := bA (bB BK467 hb); replace HB := bA (bS hb); (try clear hb); obtain ⟨hz13, hz14, hz7, hz8⟩ := bc2 BK466; obtain ⟨hz15, hz16, hz17, hz18⟩ := bc2 BK464; obtain ⟨hz19, hz20, hz3, hz4⟩ := bc2 BK465) | (go_at_call 63; (with_reducible refine (apogeeref10_On.calls kj4 a2_0 a2_1 a0_0 a0_1 a1_0 a1_1 true _ A87.out).mono ?_); rintro e wz2 ⟨rfl, hb⟩; replace BK464 := bA (bB BK464 hb); replace BK465 := bA (bB BK465 hb); replace BK466 := bA (bB BK466 hb); replace BK467 := bA (bB BK467 hb); replace HB := bA (bS hb); (try clear hb)) | (go_at_call 63; (with_reducible refine (apogeeref10_On.calls kj4 a2_0 a2_1 a0_0 a0_1 a1_0 a1_1 false _ A87.out).mono ?_); rintro e wz2 ⟨rfl, hb⟩; replace BK464 := bA (bB BK464 hb); replace BK465 := bA (bB BK465 hb); replace BK466 := bA (bB BK466 hb); replace BK467 := bA (bB BK467 hb); replace HB := bA (bS hb); (try clear hb); obtain ⟨hz21, hz22, hz11, hz12⟩ := bc2 BK467; obtain ⟨hz23, hz24, hz17, hz18⟩ := bc2 BK464; obtain ⟨hz25, hz26, hz3, hz4⟩ := bc2 BK465) | (go_at_call 63; (with_reducible refine (apogeeref10_On.calls kj4 a3_0 a3_1 a0_0 a0_1 a1_0 a1_1 t475 _ A107.out).mono ?_); rintro e wz3 ⟨rfl, hb⟩; replace BK464 := bA (bB BK464 hb); replace BK465 := bA (bB BK465 hb); replace BK466 := bA (bB BK466 hb); replace BK467 := bA (bB BK467 hb); replace HB := bA (bS hb); (try clear hb)))
   ·go_meet
    case rel => exact ⟨_, (true), bs, H', ⟨by have := HJ4.out; first | omega | exact Nat.le_refl _⟩, ⟨by (with_reducible repeat (first | refine blk_drewN ?_ _ | refine blk_drew ?_ | refine blk_alloc ?_ _)); exact BK464.out⟩, ⟨by (with_reducible repeat (first | refine blk_drewN ?_ _ | refine blk_drew ?_ | refine blk_alloc ?_ _)); exact BK465.out⟩, ⟨by (with_reducible repeat (first | refine blk_drewN ?_ _ | refine blk_drew ?_ | refine blk_alloc ?_ _)); exact BK466.out⟩, ⟨by (with_reducible repeat (first | refine blk_drewN ?_ _ | refine blk_drew ?_ | refine blk_alloc ?_ _)); exact BK467.out⟩, ⟨bX⟩⟩
   ·go_meet
    case rel => exact ⟨_, (true), bs, H', ⟨by have := HJ4.out; first | omega | exact Nat.le_refl _⟩, ⟨by (with_reducible repeat (first | refine blk_drewN ?_ _ | refine blk_drew ?_ | refine blk_alloc ?_ _)); exact BK464.out⟩, ⟨by (with_reducible repeat (first | refine blk_drewN ?_ _ | refine blk_drew ?_ | refine blk_alloc ?_ _)); exact BK465.out⟩, ⟨by (with_reducible repeat (first | refine blk_drewN ?_ _ | refine blk_drew ?_ | refine blk_alloc ?_ _)); exact BK466.out⟩, ⟨by (with_reducible repeat (first | refine blk_drewN ?_ _ | refine blk_drew ?_ | refine blk_alloc ?_ _)); exact BK467.out⟩, ⟨bX⟩⟩
   ·go_meet
    case rel => exact ⟨_, (true), bs, H', ⟨by have := HJ4.out; first | omega | exact Nat.le_refl _⟩, ⟨by (with_reducible repeat (first | refine blk_drewN ?_ _ | refine blk_drew ?_ | refine blk_alloc ?_ _)); exact BK464.out⟩, ⟨by (with_reducible repeat (first | refine blk_drewN ?_ _ | refine blk_drew ?_ | refine blk_alloc ?_ _)); exact BK465.out⟩, ⟨by (with_reducible repeat (first | refine blk_drewN ?_ _ | refine blk_drew ?_ | refine blk_alloc ?_ _)); exact BK466.out⟩, ⟨by (with_reducible repeat (first | refine blk_drewN ?_ _ | refine blk_drew ?_ | refine blk_alloc ?_ _)); exact BK467.out⟩, ⟨bX⟩⟩
   go_meet
   case rel => exact ⟨_, (t475), bs, H', ⟨by have := HJ4.out; first | omega | exact Nat.le_refl _⟩, ⟨by (with_reducible repeat (first | refine blk_drewN ?_ _ | refine blk_drew ?_ | refine blk_alloc ?_ _)); exact BK464.out⟩, ⟨by (with_reducible repeat (first | refine blk_drewN ?_ _ | refine blk_drew ?_ | refine blk_alloc ?_ _)); exact BK465.out⟩, ⟨by (with_reducible repeat (first | refine blk_drewN ?_ _ | refine blk_drew ?_ | refine blk_alloc ?_ _)); exact BK466.out⟩, ⟨by (with_reducible repeat (first | refine blk_drewN ?_ _ | refine blk_drew ?_ | refine blk_alloc ?_ _)); exact BK467.out⟩, ⟨bX⟩⟩
  clear HC58
  try clear c1
  try clear c2
  try clear p2
  try clear c3
  try clear c4
  try clear c5
  try clear c6
  try clear c7
  try clear c8
  try clear c9
  try clear c10
  try clear c11
  try clear c13
  try clear c15
  try clear c17
  try clear c18
  try clear c19
  try clear c22
  try clear c23
  try clear c26
  try clear c27
  try clear c31
  try clear c32
  try clear c33
  try clear c36
  try clear c37
  try clear c40
  try clear c43
  try clear c44
  try clear c45
  try clear c48
  try clear c49
  try clear c52
  try clear c53
  try clear c54
  try clear c57
  try clear c60
  try clear c61
  try clear c62
  try clear c63
  try clear c64
  try clear c65
  try clear c66
  try clear c68
  try clear c72
  try clear c73
  try clear c74
  try clear c75
  try clear c77
  try clear c78
  try clear c80
  try clear c88
  try clear c89
  try clear c90
  try clear c91
  try clear c93
  try clear c94
  try clear c96
  try clear c108
  try clear c109
  try clear c110
  try clear c112
  try clear c113
  try clear c115
  try clear hcz100_0
  try clear hcz100_1
  try clear hcz101_0
  try clear hcz101_1
  try clear hcz103_0
  try clear hcz103_1
  try clear hcz104_0
  try clear hcz104_1
  try clear hcz105_0
  try clear hcz105_1
  try clear hcz111_0
  try clear hcz111_1
  try clear hcz114_0
  try clear hcz114_1
  try clear hcz116_0
  try clear hcz116_1
  try clear hcz118_0
  try clear hcz118_1
  try clear hcz119_0
  try clear hcz119_1
  try clear hcz120_0
  try clear hcz120_1
  try clear hcz122_0
  try clear hcz122_1
  try clear hcz123_0
  try clear hcz123_1
  try clear hcz124_0
  try clear hcz124_1
  try clear hcz126_0
  try clear hcz126_1
  try clear hcz127_0
  try clear hcz127_1
  try clear hcz128_0
  try clear hcz128_1
  try clear hcz20_0
  try clear hcz20_1
  try clear hcz24_0
  try clear hcz24_1
  try clear hcz27_0
  try clear hcz27_1
  try clear hcz29_0
  try clear hcz29_1
  try clear hcz34_0
  try clear hcz34_1
  try clear hcz38_0
  try clear hcz38_1
  try clear hcz41_0
  try clear hcz41_1
  try clear hcz46_0
  try clear hcz46_1
  try clear hcz50_0
  try clear hcz50_1
  try clear hcz55_0
  try clear hcz55_1
  try clear hcz64_0
  try clear hcz64_1
  try clear hcz67_0
  try clear hcz67_1
  try clear hcz69_0
  try clear hcz69_1
  try clear hcz76_0
  try clear hcz76_1
  try clear hcz79_0
  try clear hcz79_1
  try clear hcz81_0
  try clear hcz81_1
  try clear hcz83_0
  try clear hcz83_1
  try clear hcz84_0
  try clear hcz84_1
  try clear hcz85_0
  try clear hcz85_1
  try clear hcz92_0
  try clear hcz92_1
  try clear hcz95_0
  try clear hcz95_1
  try clear hcz97_0
  try clear hcz97_1
  try clear hcz99_0
  try clear hcz99_1
  try clear hfz100_0
  try clear hfz100_1
  try clear hfz101_0
  try clear hfz101_1
  try clear hfz103_0
  try clear hfz103_1
  try clear hfz104_0
  try clear hfz104_1
  try clear hfz105_0
  try clear hfz105_1
  try clear hfz111_0
  try clear hfz111_1
  try clear hfz114_0
  try clear hfz114_1
  try clear hfz116_0
  try clear hfz116_1
  try clear hfz118_0
  try clear hfz118_1
  try clear hfz119_0
  try clear hfz119_1
  try clear hfz120_0
  try clear hfz120_1
  try clear hfz122_0
  try clear hfz122_1
  try clear hfz123_0
  try clear hfz123_1
  try clear hfz124_0
  try clear hfz124_1
  try clear hfz126_0
  try clear hfz126_1
  try clear hfz127_0
  try clear hfz127_1
  try clear hfz128_0
  try clear hfz128_1
  try clear hfz20_0
  try clear hfz20_1
  try clear hfz24_0
  try clear hfz24_1
  try clear hfz27_0
  try clear hfz27_1
  try clear hfz29_0
  try clear hfz29_1
  try clear hfz34_0
  try clear hfz34_1
  try clear hfz38_0
  try clear hfz38_1
  try clear hfz41_0
  try clear hfz41_1
  try clear hfz46_0
  try clear hfz46_1
  try clear hfz50_0
  try clear hfz50_1
  try clear hfz55_0
  try clear hfz55_1
  try clear hfz64_0
  try clear hfz64_1
  try clear hfz67_0
  try clear hfz67_1
  try clear hfz69_0
  try clear hfz69_1
  try clear hfz76_0
  try clear hfz76_1
  try clear hfz79_0
  try clear hfz79_1
  try clear hfz81_0
  try clear hfz81_1
  try clear hfz83_0
  try clear hfz83_1
  try clear hfz84_0
  try clear hfz84_1
  try clear hfz85_0
  try clear hfz85_1
  try clear hfz92_0
  try clear hfz92_1
  try clear hfz95_0
  try clear hfz95_1
  try clear hfz97_0
  try clear hfz97_1
  try clear hfz99_0
  try clear hfz99_1
  try clear p2
  obtain ⟨kq, x48_57, rfl, HA, HJ57, BK464, BK465, BK466, BK467, HB⟩ := hcut
  cases kq with
  | zero => exact absurd HA.out (by simp [apogeeref10_Meet.j1])
  | succ kj57 =>
   have H := HA.out
   clear HA
   simp only [apogeeref10_Meet.j1] at H
   by_cases c130 : x48_57 = true
   ·subst c130
    rw [if_pos rfl] at H
    obtain rfl := Option.some.inj H
    go_wp2
    go_ret
    exact bF
   replace c130 := Bool.eq_false_iff.mpr c130
   subst c130
   rw [if_neg bn] at H
   replace H := Option.bind_eq_some_iff.mp H
   obtain ⟨t476, A1310, H⟩ := H
   have A131 := bA A1310
   clear A1310
   replace H := Option.bind_eq_some_iff.mp H
   obtain ⟨t477, A1320, H⟩ := H
   have A132 := bA A1320
   clear A1320
   by_cases c133 : (wrap64 (t476 * t477)) < 0
   rotate_left
   ·rw [if_neg c133] at H
    have c133b0 : decide ((wrap64 (t476 * t477)) < 0) = false := decide_eq_false c133
    clear c133
    obtain rfl := Option.some.inj H
    try go_wp2
    replace BK464 := bA (blk_drew BK464.out)
    replace BK465 := bA (blk_drew BK465.out)
    replace BK466 := bA (blk_drew BK466.out)
    replace BK467 := bA (blk_drew BK467.out)
    replace HB := bA (below_drew1 HB.out)
    refine start_ (n := 23) (S := fun w' => w'.cell? ⟨gb464, 0, none⟩ = some (.int .i64 a0_0) ∧ w'.cell? ⟨gb464, 1, none⟩ = some (.int .i64 a0_1) ∧ w'.cell? ⟨gb465, 0, none⟩ = some (.int .i64 a1_0) ∧ w'.cell? ⟨gb465, 1, none⟩ = some (.int .i64 a1_1) ∧ w'.cell? ⟨gb466, 0, none⟩ = some (.int .i64 a2_0) ∧ w'.cell? ⟨gb466, 1, none⟩ = some (.int .i64 a2_1) ∧ w'.cell? ⟨gb467, 0, none⟩ = some (.int .i64 a3_0) ∧ w'.cell? ⟨gb467, 1, none⟩ = some (.int .i64 a3_1)) (ds := []) #[false,false,false,false,false,false,false,false,false,false,false,false,false,false,false,false,false,false,false,false,false,false,false] (by kernel_rfl) rfl rfl ⟨bq BK464 0, bq BK464 1, bq BK465 0, bq BK465 1, bq BK466 0, bq BK466 1, bq BK467 0, bq BK467 1⟩ (fun hHeld => ?_); refine with_tabW apogeeref10_Meet.tab5 apogeeref10_Meet.bits5 (fun HT_ HW_ => ?_)
    generalize wc.drew = w141 at BK464 BK465 BK466 BK467 HB hHeld ⊢
    refine bW (i := 0) (N := some 49) hHeld ?_
    refine bW (i := 1) (N := some 50) hHeld ?_
    refine bW (i := 2) (N := some 51) hHeld ?_
    refine bW (i := 4) (N := some 53) hHeld ?_
    refine bW (i := 5) (N := some 54) hHeld ?_
    refine bW (i := 6) (N := some 55) hHeld ?_
    refine one_ (i := 3) (N := some 52) #[true,true,true,true,true,true,true,false,false,false,false,false,false,false,false,false,false,false,false,false,false,false,false] rfl rfl (one_of HT_.out (by kernel_rfl)) (by decide) (fun K hK => ?_)
    refine goes_ Try.func78 (by kernel_rfl) rfl #[.agg #[.int .i64 a0_0, .int .i64 a0_1], .agg #[.int .i64 a1_0, .int .i64 a1_1], .agg #[.int .i64 a2_0, .int .i64 a2_1]] (by rfl) rfl rfl (by (try simp only [List.map_toArray, List.map_cons, List.map_nil]); first | done | rfl | (simp only [List.length_drop, List.length_take]; rfl)) ?_
    with_reducible refine (apogeeref10_Turn.calls kj57 a0_0 a0_1 a1_0 a1_1 a2_0 a2_1 t476 _ A131.out).mono ?_
    rintro e w142 ⟨rfl, hb⟩
    refine ⟨_, rfl, ?_⟩
    replace BK464 := bA (bB BK464 hb)
    replace BK465 := bA (bB BK465 hb)
    replace BK466 := bA (bB BK466 hb)
    replace BK467 := bA (bB BK467 hb)
    replace HB := bA (bS hb)
    (try clear hb)
    refine hK.out _ _ ⟨bq BK464 0, bq BK464 1, bq BK465 0, bq BK465 1, bq BK466 0, bq BK466 1, bq BK467 0, bq BK467 1⟩ (fun hHeld => ?_)
    clear hK K
    refine bI 52 ?_
    refine one_ (i := 7) (N := some 56) #[true,true,true,true,true,true,true,true,false,false,false,false,false,false,false,false,false,false,false,false,false,false,false] rfl rfl (one_of HT_.out (by kernel_rfl)) (by decide) (fun K hK => ?_)
    refine goes_ Try.func78 (by kernel_rfl) rfl #[.agg #[.int .i64 a0_0, .int .i64 a0_1], .agg #[.int .i64 a1_0, .int .i64 a1_1], .agg #[.int .i64 a3_0, .int .i64 a3_1]] (by rfl) rfl rfl (by (try simp only [List.map_toArray, List.map_cons, List.map_nil]); first | done | rfl | (simp only [List.length_drop, List.length_take]; rfl)) ?_
    with_reducible refine (apogeeref10_Turn.calls kj57 a0_0 a0_1 a1_0 a1_1 a3_0 a3_1 t477 _ A132.out).mono ?_
    rintro e w143 ⟨rfl, hb⟩
    refine ⟨_, rfl, ?_⟩
    replace BK464 := bA (bB BK464 hb)
    replace BK465 := bA (bB BK465 hb)
    replace BK466 := bA (bB BK466 hb)
    replace BK467 := bA (bB BK467 hb)
    replace HB := bA (bS hb)
    (try clear hb)
    refine hK.out _ _ ⟨bq BK464 0, bq BK464 1, bq BK465 0, bq BK465 1, bq BK466 0, bq BK466 1, bq BK467 0, bq BK467 1⟩ (fun hHeld => ?_)
    clear hK K
    refine bI 56 ?_
    refine bU (i := 8) (N := some 57) ?_
    refine bU (i := 9) (N := some 58) ?_
    refine bU (i := 10) (N := some 59) ?_
    refine pure_ (i := 11) (N := some 60) (v := undef) (a' := ?_) #[true,true,true,true,true,true,true,true,true,true,true,true,false,false,false,false,false,false,false,false,false,false,false] rfl rfl (any_of HT_.out (by kernel_rfl)) (fun _ _ _ h => h) (Or.inr ⟨by rfl, rfl⟩) ?_ ?_
    rotate_left
    ·simp only [Act.put, List.setIfInBounds_toArray, List.set_cons_zero, List.set_cons_succ, i64_w, i32_w]
     rfl
    refine pure_ (i := 12) (N := some 61) (v := undef) (a' := ?_) #[true,true,true,true,true,true,true,true,true,true,true,true,true,false,false,false,false,false,false,false,false,false,false] rfl rfl (any_of HT_.out (by kernel_rfl)) (fun _ _ _ h => h) (Or.inr ⟨by rfl, rfl⟩) ?_ ?_
    rotate_left
    ·simp only [Act.put, List.setIfInBounds_toArray, List.set_cons_zero, List.set_cons_succ, i64_w, i32_w]
     rfl
    refine pure_ (i := 13) (N := some 62) (v := undef) (a' := ?_) #[true,true,true,true,true,true,true,true,true,true,true,true,true,true,false,false,false,false,false,false,false,false,false] rfl rfl (any_of HT_.out (by kernel_rfl)) (fun _ _ _ h => h) (Or.inr ⟨by rfl, rfl⟩) ?_ ?_
    rotate_left
    ·simp only [Act.put, List.setIfInBounds_toArray, List.set_cons_zero, List.set_cons_succ, i64_w, i32_w]
     rfl
    refine pure_ (i := 14) (N := some 63) (v := undef) (a' := ?_) #[true,true,true,true,true,true,true,true,true,true,true,true,true,true,true,false,false,false,false,false,false,false,false] rfl rfl (any_of HT_.out (by kernel_rfl)) (fun _ _ _ h => h) (Or.inr ⟨by rfl, rfl⟩) ?_ ?_
    rotate_left
    ·simp only [Act.put, List.setIfInBounds_toArray, List.set_cons_zero, List.set_cons_succ, i64_w, i32_w]
     rfl
    refine pure_ (i := 15) (N := some 64) (v := undef) (a' := ?_) #[true,true,true,true,true,true,true,true,true,true,true,true,true,true,true,true,false,false,false,false,false,false,false] rfl rfl (any_of HT_.out (by kernel_rfl)) (fun _ _ _ h => h) (Or.inr ⟨by rfl, rfl⟩) ?_ ?_
    rotate_left
    ·simp only [Act.put, List.setIfInBounds_toArray, List.set_cons_zero, List.set_cons_succ, i64_w, i32_w]
     rfl
    refine pure_ (i := 16) (N := some 65) (v := undef) (a' := ?_) #[true,true,true,true,true,true,true,true,true,true,true,true,true,true,true,true,true,false,false,false,false,false,false] rfl rfl (any_of HT_.out (by kernel_rfl)) (fun _ _ _ h => h) (Or.inr ⟨by rfl, rfl⟩) ?_ ?_
    rotate_left
    ·simp only [Act.put, List.setIfInBounds_toArray, List.set_cons_zero, List.set_cons_succ, i64_w, i32_w]
     rfl
    refine pure_ (i := 17) (N := some 66) (v := undef) (a' := ?_) #[true,true,true,true,true,true,true,true,true,true,true,true,true,true,true,true,true,true,false,false,false,false,false] rfl rfl (any_of HT_.out (by kernel_rfl)) (fun _ _ _ h => h) (Or.inr ⟨by rfl, rfl⟩) ?_ ?_
    rotate_left
    ·simp only [Act.put, List.setIfInBounds_toArray, List.set_cons_zero, List.set_cons_succ, i64_w, i32_w]
     rfl
    refine pure_ (i := 18) (N := some 67) (v := undef) (a' := ?_) #[true,true,true,true,true,true,true,true,true,true,true,true,true,true,true,true,true,true,true,false,false,false,false] rfl rfl (any_of HT_.out (by kernel_rfl)) (fun _ _ _ h => h) (Or.inr ⟨by rfl, rfl⟩) ?_ ?_
    rotate_left
    ·simp only [Act.put, List.setIfInBounds_toArray, List.set_cons_zero, List.set_cons_succ, i64_w, i32_w]
     rfl
    refine pure_ (i := 19) (N := some 68) (v := undef) (a' := ?_) #[true,true,true,true,true,true,true,true,true,true,true,true,true,true,true,true,true,true,true,true,false,false,false] rfl rfl (any_of HT_.out (by kernel_rfl)) (fun _ _ _ h => h) (Or.inr ⟨by rfl, rfl⟩) ?_ ?_
    rotate_left
    ·simp only [Act.put, List.setIfInBounds_toArray, List.set_cons_zero, List.set_cons_succ, i64_w, i32_w]
     rfl
    refine pure_ (i := 20) (N := some 69) (v := undef) (a' := ?_) #[true,true,true,true,true,true,true,true,true,true,true,true,true,true,true,true,true,true,true,true,true,false,false] rfl rfl (any_of HT_.out (by kernel_rfl)) (fun _ _ _ h => h) (Or.inr ⟨by rfl, rfl⟩) ?_ ?_
    rotate_left
    ·simp only [Act.put, List.setIfInBounds_toArray, List.set_cons_zero, List.set_cons_succ, i64_w, i32_w]
     rfl
    refine bU (i := 21) (N := some 70) ?_
    refine bU (i := 22) (N := some 8) ?_
    refine done_ (done_of HT_.out (by kernel_rfl)) ?_
    try go_wp2
    go_ret
    exact bF
   rw [if_pos c133] at H
   have c133b0 : decide ((wrap64 (t476 * t477)) < 0) = true := decide_eq_true c133
   clear c133
   replace H := Option.bind_eq_some_iff.mp H
   obtain ⟨t478, A1340, H⟩ := H
   have A134 := bA A1340
   clear A1340
   replace H := Option.bind_eq_some_iff.mp H
   obtain ⟨t479, A1350, H⟩ := H
   have A135 := bA A1350
   clear A1350
   obtain rfl := Option.some.inj H
   try go_wp2
   replace BK464 := bA (blk_drew BK464.out)
   replace BK465 := bA (blk_drew BK465.out)
   replace BK466 := bA (blk_drew BK466.out)
   replace BK467 := bA (blk_drew BK467.out)
   replace HB := bA (below_drew1 HB.out)
   refine start_ (n := 23) (S := fun w' => w'.cell? ⟨gb464, 0, none⟩ = some (.int .i64 a0_0) ∧ w'.cell? ⟨gb464, 1, none⟩ = some (.int .i64 a0_1) ∧ w'.cell? ⟨gb465, 0, none⟩ = some (.int .i64 a1_0) ∧ w'.cell? ⟨gb465, 1, none⟩ = some (.int .i64 a1_1) ∧ w'.cell? ⟨gb466, 0, none⟩ = some (.int .i64 a2_0) ∧ w'.cell? ⟨gb466, 1, none⟩ = some (.int .i64 a2_1) ∧ w'.cell? ⟨gb467, 0, none⟩ = some (.int .i64 a3_0) ∧ w'.cell? ⟨gb467, 1, none⟩ = some (.int .i64 a3_1)) (ds := []) #[false,false,false,false,false,false,false,false,false,false,false,false,false,false,false,false,false,false,false,false,false,false,false] (by kernel_rfl) rfl rfl ⟨bq BK464 0, bq BK464 1, bq BK465 0, bq BK465 1, bq BK466 0, bq BK466 1, bq BK467 0, bq BK467 1⟩ (fun hHeld => ?_); refine with_tabW apogeeref10_Meet.tab5 apogeeref10_Meet.bits5 (fun HT_ HW_ => ?_)
   generalize wc.drew = w136 at BK464 BK465 BK466 BK467 HB hHeld ⊢
   refine bW (i := 0) (N := some 49) hHeld ?_
   refine bW (i := 1) (N := some 50) hHeld ?_
   refine bW (i := 2) (N := some 51) hHeld ?_
   refine bW (i := 4) (N := some 53) hHeld ?_
   refine bW (i := 5) (N := some 54) hHeld ?_
   refine bW (i := 6) (N := some 55) hHeld ?_
   refine one_ (i := 3) (N := some 52) #[true,true,true,true,true,true,true,false,false,false,false,false,false,false,false,false,false,false,false,false,false,false,false] rfl rfl (one_of HT_.out (by kernel_rfl)) (by decide) (fun K hK => ?_)
   refine goes_ Try.func78 (by kernel_rfl) rfl #[.agg #[.int .i64 a0_0, .int .i64 a0_1], .agg #[.int .i64 a1_0, .int .i64 a1_1], .agg #[.int .i64 a2_0, .int .i64 a2_1]] (by rfl) rfl rfl (by (try simp only [List.map_toArray, List.map_cons, List.map_nil]); first | done | rfl | (simp only [List.length_drop, List.length_take]; rfl)) ?_
   with_reducible refine (apogeeref10_Turn.calls kj57 a0_0 a0_1 a1_0 a1_1 a2_0 a2_1 t476 _ A131.out).mono ?_
   rintro e w137 ⟨rfl, hb⟩
   refine ⟨_, rfl, ?_⟩
   replace BK464 := bA (bB BK464 hb)
   replace BK465 := bA (bB BK465 hb)
   replace BK466 := bA (bB BK466 hb)
   replace BK467 := bA (bB BK467 hb)
   replace HB := bA (bS hb)
   (try clear hb)
   refine hK.out _ _ ⟨bq BK464 0, bq BK464 1, bq BK465 0, bq BK465 1, bq BK466 0, bq BK466 1, bq BK467 0, bq BK467 1⟩ (fun hHeld => ?_)
   clear hK K
   refine bI 52 ?_
   refine one_ (i := 7) (N := some 56) #[true,true,true,true,true,true,true,true,false,false,false,false,false,false,false,false,false,false,false,false,false,false,false] rfl rfl (one_of HT_.out (by kernel_rfl)) (by decide) (fun K hK => ?_)
   refine goes_ Try.func78 (by kernel_rfl) rfl #[.agg #[.int .i64 a0_0, .int .i64 a0_1], .agg #[.int .i64 a1_0, .int .i64 a1_1], .agg #[.int .i64 a3_0, .int .i64 a3_1]] (by rfl) rfl rfl (by (try simp only [List.map_toArray, List.map_cons, List.map_nil]); first | done | rfl | (simp only [List.length_drop, List.length_take]; rfl)) ?_
   with_reducible refine (apogeeref10_Turn.calls kj57 a0_0 a0_1 a1_0 a1_1 a3_0 a3_1 t477 _ A132.out).mono ?_
   rintro e w138 ⟨rfl, hb⟩
   refine ⟨_, rfl, ?_⟩
   replace BK464 := bA (bB BK464 hb)
   replace BK465 := bA (bB BK465 hb)
   replace BK466 := bA (bB BK466 hb)
   replace BK467 := bA (bB BK467 hb)
   replace HB := bA (bS hb)
   (try clear hb)
   refine hK.out _ _ ⟨bq BK464 0, bq BK464 1, bq BK465 0, bq BK465 1, bq BK466 0, bq BK466 1, bq BK467 0, bq BK467 1⟩ (fun hHeld => ?_)
   clear hK K
   refine bI 56 ?_
   refine bU (i := 8) (N := some 57) ?_
   refine bU (i := 9) (N := some 58) ?_
   refine bU (i := 10) (N := some 59) ?_
   refine bW (i := 11) (N := some 60) hHeld ?_
   refine bW (i := 12) (N := some 61) hHeld ?_
   refine bW (i := 13) (N := some 62) hHeld ?_
   refine bW (i := 15) (N := some 64) hHeld ?_
   refine bW (i := 16) (N := some 65) hHeld ?_
   refine bW (i := 17) (N := some 66) hHeld ?_
   refine one_ (i := 14) (N := some 63) #[true,true,true,true,true,true,true,true,true,true,true,true,true,true,true,true,true,true,false,false,false,false,false] rfl rfl (one_of HT_.out (by kernel_rfl)) (by decide) (fun K hK => ?_)
   refine goes_ Try.func78 (by kernel_rfl) rfl #[.agg #[.int .i64 a2_0, .int .i64 a2_1], .agg #[.int .i64 a3_0, .int .i64 a3_1], .agg #[.int .i64 a0_0, .int .i64 a0_1]] (by rfl) rfl rfl (by (try simp only [List.map_toArray, List.map_cons, List.map_nil]); first | done | rfl | (simp only [List.length_drop, List.length_take]; rfl)) ?_
   with_reducible refine (apogeeref10_Turn.calls kj57 a2_0 a2_1 a3_0 a3_1 a0_0 a0_1 t478 _ A134.out).mono ?_
   rintro e w139 ⟨rfl, hb⟩
   refine ⟨_, rfl, ?_⟩
   replace BK464 := bA (bB BK464 hb)
   replace BK465 := bA (bB BK465 hb)
   replace BK466 := bA (bB BK466 hb)
   replace BK467 := bA (bB BK467 hb)
   replace HB := bA (bS hb)
   (try clear hb)
   refine hK.out _ _ ⟨bq BK464 0, bq BK464 1, bq BK465 0, bq BK465 1, bq BK466 0, bq BK466 1, bq BK467 0, bq BK467 1⟩ (fun hHeld => ?_)
   clear hK K
   refine bI 63 ?_
   refine one_ (i := 18) (N := some 67) #[true,true,true,true,true,true,true,true,true,true,true,true,true,true,true,true,true,true,true,false,false,false,false] rfl rfl (one_of HT_.out (by kernel_rfl)) (by decide) (fun K hK => ?_)
   refine goes_ Try.func78 (by kernel_rfl) rfl #[.agg #[.int .i64 a2_0, .int .i64 a2_1], .agg #[.int .i64 a3_0, .int .i64 a3_1], .agg #[.int .i64 a1_0, .int .i64 a1_1]] (by rfl) rfl rfl (by (try simp only [List.map_toArray, List.map_cons, List.map_nil]); first | done | rfl | (simp only [List.length_drop, List.length_take]; rfl)) ?_
   with_reducible refine (apogeeref10_Turn.calls kj57 a2_0 a2_1 a3_0 a3_1 a1_0 a1_1 t479 _ A135.out).mono ?_
   rintro e w140 ⟨rfl, hb⟩
   refine ⟨_, rfl, ?_⟩
   replace BK464 := bA (bB BK464 hb)
   replace BK465 := bA (bB BK465 hb)
   replace BK466 := bA (bB BK466 hb)
   replace BK467 := bA (bB BK467 hb)
   replace HB := bA (bS hb)
   (try clear hb)
   refine hK.out _ _ ⟨bq BK464 0, bq BK464 1, bq BK465 0, bq BK465 1, bq BK466 0, bq BK466 1, bq BK467 0, bq BK467 1⟩ (fun hHeld => ?_)
   clear hK K
   refine bI 67 ?_
   refine bU (i := 19) (N := some 68) ?_
   refine bU (i := 20) (N := some 69) ?_
   refine bU (i := 21) (N := some 70) ?_
   refine bU (i := 22) (N := some 8) ?_
   refine done_ (done_of HT_.out (by kernel_rfl)) ?_
   try go_wp2
   go_ret
   exact bF
end Go.Proofs.Ytfeekdoakoabeaa.G
