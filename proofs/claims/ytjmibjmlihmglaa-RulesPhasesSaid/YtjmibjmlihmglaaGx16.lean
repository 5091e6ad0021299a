-- Written by a program of this session out of the translation; Lean checks it.
import Derived.Test.YtjmibjmlihmglaaGx0
import Derived.Test.YtjmibjmlihmglaaGx12
import Derived.Test.YtjmibjmlihmglaaGx15
namespace Go.Proofs.Ytjmibjmlihmglaa.G
open Go.RowKit Go.Proofs.YtjmibjmlihmglaaW.PrintWords Go.Proofs.YtjmibjmlihmglaaW.PrintLast Go.Proofs.YtjmibjmlihmglaaW.PrintMore
attribute [local go_sem] max2_int min2_int max_two min_two max_three min_three max_four min_four   -- for this text's walks alone
set_option linter.unusedVariables false
set_option linter.unusedSimpArgs false

/-! ### apogeeref10_Meet: function 71 -/
mutual
def apogeeref10_Meet.j0 : Nat → Bool → Int → Int → Int → Int → Int → Int → Int → Int → Option (Bool)
 | 0, _, _, _, _, _, _, _, _, _ => none
 | k + 1, x26, x429000, x429001, x430000, x430001, x431000, x431001, x432000, x432001 => if x26 = true then (some false) else ((apogeeref10_On.f k x429000 x429001 x431000 x431001 x432000 x432001).bind fun t436 => (if t436 = true then (apogeeref10_Meet.j1 k true x429000 x429001 x430000 x430001 x431000 x431001 x432000 x432001) else ((apogeeref10_On.f k x430000 x430001 x431000 x431001 x432000 x432001).bind fun t437 => (if t437 = true then (apogeeref10_Meet.j1 k true x429000 x429001 x430000 x430001 x431000 x431001 x432000 x432001) else ((apogeeref10_On.f k x431000 x431001 x429000 x429001 x430000 x430001).bind fun t438 => (if t438 = true then (apogeeref10_Meet.j1 k true x429000 x429001 x430000 x430001 x431000 x431001 x432000 x432001) else ((apogeeref10_On.f k x432000 x432001 x429000 x429001 x430000 x430001).bind fun t439 => (apogeeref10_Meet.j1 k t439 x429000 x429001 x430000 x430001 x431000 x431001 x432000 x432001))))))))
def apogeeref10_Meet.j1 : Nat → Bool → Int → Int → Int → Int → Int → Int → Int → Int → Option (Bool)
 | 0, _, _, _, _, _, _, _, _, _ => none
 | k + 1, x48, x429000, x429001, x430000, x430001, x431000, x431001, x432000, x432001 => if x48 = true then (some true) else ((apogeeref10_Turn.f k x429000 x429001 x430000 x430001 x431000 x431001).bind fun t440 => ((apogeeref10_Turn.f k x429000 x429001 x430000 x430001 x432000 x432001).bind fun t441 => (if (wrap64 (t440 * t441)) < 0 then ((apogeeref10_Turn.f k x431000 x431001 x432000 x432001 x429000 x429001).bind fun t442 => ((apogeeref10_Turn.f k x431000 x431001 x432000 x432001 x430000 x430001).bind fun t443 => (some (decide ((wrap64 (t442 * t443)) < 0))))) else (some false))))
end
def apogeeref10_Meet.f (k : Nat) (a0_0 : Int) (a0_1 : Int) (a1_0 : Int) (a1_1 : Int) (a2_0 : Int) (a2_1 : Int) (a3_0 : Int) (a3_1 : Int) : Option (Bool) := (apogeeref10_Right.f a0_0 a0_1).bind fun t432 => (if t432 = true then ((apogeeref10_Right.f a1_0 a1_1).bind fun t433 => (if t433 = true then ((apogeeref10_Right.f a2_0 a2_1).bind fun t434 => (if t434 = true then ((apogeeref10_Right.f a3_0 a3_1).bind fun t435 => (apogeeref10_Meet.j0 k (!t435) a0_0 a0_1 a1_0 a1_1 a2_0 a2_1 a3_0 a3_1)) else (apogeeref10_Meet.j0 k true a0_0 a0_1 a1_0 a1_1 a2_0 a2_1 a3_0 a3_1))) else (apogeeref10_Meet.j0 k true a0_0 a0_1 a1_0 a1_1 a2_0 a2_1 a3_0 a3_1))) else (apogeeref10_Meet.j0 k true a0_0 a0_1 a1_0 a1_1 a2_0 a2_1 a3_0 a3_1))
theorem apogeeref10_Meet.mono_l : ∀ k, (∀ y0 y1 y2 y3 y4 y5 y6 y7 y8, LeO (apogeeref10_Meet.j0 k y0 y1 y2 y3 y4 y5 y6 y7 y8) (apogeeref10_Meet.j0 (k + 1) y0 y1 y2 y3 y4 y5 y6 y7 y8)) ∧ (∀ y0 y1 y2 y3 y4 y5 y6 y7 y8, LeO (apogeeref10_Meet.j1 k y0 y1 y2 y3 y4 y5 y6 y7 y8) (apogeeref10_Meet.j1 (k + 1) y0 y1 y2 y3 y4 y5 y6 y7 y8))
 | 0 => ⟨fun _ _ _ _ _ _ _ _ _ r h => by simp [apogeeref10_Meet.j0] at h, fun _ _ _ _ _ _ _ _ _ r h => by simp [apogeeref10_Meet.j1] at h⟩
 | k + 1 => by
  obtain ⟨ih0, ih1⟩ := apogeeref10_Meet.mono_l k
  refine ⟨?_, ?_⟩
  ·intro y0 y1 y2 y3 y4 y5 y6 y7 y8
   unfold apogeeref10_Meet.j0
   have m0_ := @apogeeref10_On.mono
   have m1_ := @apogeeref10_Turn.mono
   exact bMo
  ·intro y0 y1 y2 y3 y4 y5 y6 y7 y8
   unfold apogeeref10_Meet.j1
   have m0_ := @apogeeref10_On.mono
   have m1_ := @apogeeref10_Turn.mono
   exact bMo
theorem apogeeref10_Meet.mono : ∀ a0 a1 a2 a3 a4 a5 a6 a7 k, LeO (apogeeref10_Meet.f k a0 a1 a2 a3 a4 a5 a6 a7) (apogeeref10_Meet.f (k + 1) a0 a1 a2 a3 a4 a5 a6 a7) := by
 intro a0 a1 a2 a3 a4 a5 a6 a7 k
 obtain ⟨ih0, ih1⟩ := apogeeref10_Meet.mono_l k
 unfold apogeeref10_Meet.f
 have m0_ := @apogeeref10_On.mono
 have m1_ := @apogeeref10_Turn.mono
 exact bMo
def apogeeref10_Meet.T5 : Bool × List (List Nat × List Nat) := (true, [([], []), ([], []), ([], []), ([0, 1, 2], [0, 1, 2]), ([], []), ([], []), ([], []), ([4, 5, 6, 3], [4, 5, 6]), ([3, 7], [3, 7]), ([8], [8]), ([9, 7], [9]), ([10], [10]), ([10], [10]), ([10], [10]), ([11, 12, 13, 10, 10], [10, 11, 12, 13]), ([10], [10]), ([10], [10]), ([10], [10]), ([15, 16, 17, 14, 10], [10, 15, 16, 17]), ([14, 18, 10], [10, 14, 18]), ([19, 10], [10, 19]), ([10, 20], [10, 20]), ([21, 18, 0, 1, 2, 3, 4, 5, 6, 7, 8, 9, 10, 11, 12, 13, 14, 15, 16, 17, 18, 19, 20, 21], [21])])
def apogeeref10_Meet.B5 : List Nat := [0, 0, 0, 7, 0, 0, 0, 127, 255, 511, 1023, 2047, 2047, 2047, 16383, 2047, 2047, 2047, 262143, 524287, 1048575, 2097151, 4194303]
theorem apogeeref10_Meet.tab5 : rtab .any (opsOf Try.f71 5) = apogeeref10_Meet.T5 := by kernel_rfl
theorem apogeeref10_Meet.bits5 : waitsOk apogeeref10_Meet.T5.2 apogeeref10_Meet.B5 = true := by kernel_rfl
set_option maxHeartbeats 8000000 in
set_option maxRecDepth 100000 in
theorem apogeeref10_Meet.calls (k : Nat) (a0_0 : Int) (a0_1 : Int) (a1_0 : Int) (a1_1 : Int) (a2_0 : Int) (a2_1 : Int) (a3_0 : Int) (a3_1 : Int) (r : Bool) (w : World) (h : apogeeref10_Meet.f k a0_0 a0_1 a1_0 a1_1 a2_0 a2_1 a3_0 a3_1 = some r) :
  Calls Try.prog 71 #[.agg #[.int .i64 a0_0, .int .i64 a0_1], .agg #[.int .i64 a1_0, .int .i64 a1_1], .agg #[.int .i64 a2_0, .int .i64 a2_1], .agg #[.int .i64 a3_0, .int .i64 a3_1]] w fun e w' => e = .returned (.bool r) ∧ Below w.heap.size w w' := by
 have hu41 := Try.underlying41
 have HB := bA (Below.refl w.heap.size w)
 have H : ((apogeeref10_Right.f a0_0 a0_1).bind fun t432 => (if t432 = true then ((apogeeref10_Right.f a1_0 a1_1).bind fun t433 => (if t433 = true then ((apogeeref10_Right.f a2_0 a2_1).bind fun t434 => (if t434 = true then ((apogeeref10_Right.f a3_0 a3_1).bind fun t435 => (apogeeref10_Meet.j0 k (!t435) a0_0 a0_1 a1_0 a1_1 a2_0 a2_1 a3_0 a3_1)) else (apogeeref10_Meet.j0 k true a0_0 a0_1 a1_0 a1_1 a2_0 a2_1 a3_0 a3_1))) else (apogeeref10_Meet.j0 k true a0_0 a0_1 a1_0 a1_1 a2_0 a2_1 a3_0 a3_1))) else (apogeeref10_Meet.j0 k true a0_0 a0_1 a1_0 a1_1 a2_0 a2_1 a3_0 a3_1))) = some r := h
 clear h
 have HC5 := bA H
 clear H
 go_enter Try.func71, Try.ntmps71
 go_upto_region 1 with (first | ((with_reducible refine gate_dst (N := 4) rfl ?_); refine bE (N := 4) (cs := #[.int .i64 a0_0, .int .i64 a0_1]) (t := 41) ?_; intro gb428 hg w6 hbox hb; have n0_ := bA (bS hb); have n1_ := bA (hbox); have n2_ := bA (bZ hg); have n3_ := bA (bZ hg); clear HB; have HB := n0_; have BK428 := n1_; have GW428 := n2_; have GE428 := n3_; clear n0_ n1_ n2_ n3_; clear hb hbox hg) | ((with_reducible refine gate_dst (N := 5) rfl ?_); refine bE (N := 5) (cs := #[.int .i64 a1_0, .int .i64 a1_1]) (t := 41) ?_; intro gb429 hg w7 hbox hb; have n0_ := bA (bB BK428 hb); have n1_ := bA (bS hb); have n2_ := bA (hbox); have n3_ := bA (bZ hg); have n4_ := bA (bZ hg); have n5_ := bA (bL BK428 hg); have n6_ := bA (bG BK428 hg); clear BK428; clear HB; have BK428 := n0_; have HB := n1_; have BK429 := n2_; have GW429 := n3_; have GE429 := n4_; have NB428_429 := n5_; have NB429_428 := n6_; clear n0_ n1_ n2_ n3_ n4_ n5_ n6_; clear hb hbox hg) | ((with_reducible refine gate_dst (N := 6) rfl ?_); refine bE (N := 6) (cs := #[.int .i64 a2_0, .int .i64 a2_1]) (t := 41) ?_; intro gb430 hg w8 hbox hb; have n0_ := bA (bB BK428 hb); have n1_ := bA (bB BK429 hb); have n2_ := bA (bS hb); have n3_ := bA (hbox); have n4_ := bA (bZ hg); have n5_ := bA (bZ hg); have n6_ := bA (bL BK428 hg); have n7_ := bA (bG BK428 hg); have n8_ := bA (bL BK429 hg); have n9_ := bA (bG BK429 hg); clear BK428; clear BK429; clear HB; have BK428 := n0_; have BK429 := n1_; have HB := n2_; have BK430 := n3_; have GW430 := n4_; have GE430 := n5_; have NB428_430 := n6_; have NB430_428 := n7_; have NB429_430 := n8_; have NB430_429 := n9_; clear n0_ n1_ n2_ n3_ n4_ n5_ n6_ n7_ n8_ n9_; clear hb hbox hg) | ((with_reducible refine gate_dst (N := 7) rfl ?_); refine bE (N := 7) (cs := #[.int .i64 a3_0, .int .i64 a3_1]) (t := 41) ?_; intro gb431 hg w9 hbox hb; have n0_ := bA (bB BK428 hb); have n1_ := bA (bB BK429 hb); have n2_ := bA (bB BK430 hb); have n3_ := bA (bS hb); have n4_ := bA (hbox); have n5_ := bA (bZ hg); have n6_ := bA (bZ hg); have n7_ := bA (bL BK428 hg); have n8_ := bA (bG BK428 hg); have n9_ := bA (bL BK429 hg); have n10_ := bA (bG BK429 hg); have n11_ := bA (bL BK430 hg); have n12_ := bA (bG BK430 hg); clear BK428; clear BK429; clear BK430; clear HB; have BK428 := n0_; have BK429 := n1_; have BK430 := n2_; have HB := n3_; have BK431 := n4_; have GW431 := n5_; have GE431 := n6_; have NB428_431 := n7_; have NB431_428 := n8_; have NB429_431 := n9_; have NB431_429 := n10_; have NB430_431 := n11_; have NB431_430 := n12_; clear n0_ n1_ n2_ n3_ n4_ n5_ n6_ n7_ n8_ n9_ n10_ n11_ n12_; clear hb hbox hg))
 (try simp only [Act.put, List.setIfInBounds_toArray, List.set_cons_zero, List.set_cons_succ])
 go_cut [26] (fun v26 wc => ∃ (kq : Nat) (x26_4 : Bool), v26 = .bool x26_4 ∧ Aside0 (apogeeref10_Meet.j0 kq x26_4 a0_0 a0_1 a1_0 a1_1 a2_0 a2_1 a3_0 a3_1 = some r) ∧ Aside0 (kq ≤ k) ∧ Aside0 (wc.heap[gb428]? = some (.cells #[.int .i64 a0_0, .int .i64 a0_1] 41 (0, 0))) ∧ Aside0 (wc.heap[gb429]? = some (.cells #[.int .i64 a1_0, .int .i64 a1_1] 41 (0, 0))) ∧ Aside0 (wc.heap[gb430]? = some (.cells #[.int .i64 a2_0, .int .i64 a2_1] 41 (0, 0))) ∧ Aside0 (wc.heap[gb431]? = some (.cells #[.int .i64 a3_0, .int .i64 a3_1] 41 (0, 0))) ∧ Aside0 (Below w.heap.size w wc))
 case first =>
  have H := HC5.out
  clear HC5
  replace H := Option.bind_eq_some_iff.mp H
  obtain ⟨t432, A100, H⟩ := H
  have A10 := bA A100
  clear A100
  by_cases c11 : t432 = true
  subst c11
  rw [if_pos rfl] at H
  replace H := Option.bind_eq_some_iff.mp H
  obtain ⟨t433, A120, H⟩ := H
  have A12 := bA A120
  clear A120
  by_cases c13 : t433 = true
  subst c13
  rw [if_pos rfl] at H
  replace H := Option.bind_eq_some_iff.mp H
  obtain ⟨t434, A140, H⟩ := H
  have A14 := bA A140
  clear A140
  by_cases c15 : t434 = true
  subst c15
  rw [if_pos rfl] at H
  replace H := Option.bind_eq_some_iff.mp H
  obtain ⟨t435, A160, H⟩ := H
  have A16 := bA A160
  clear A160
  have H' := bA H
  clear H
  have hnb17 := NB428_429.out
  have hnc17 := NB429_428.out
  have hnb18 := NB428_430.out
  have hnc18 := NB430_428.out
  have hnb19 := NB428_431.out
  have hnc19 := NB431_428.out
  obtain ⟨hcz20_0, hcz20_1, hfz20_0, hfz20_1⟩ := bc2 BK428
  rotate_left
  replace c15 := Bool.eq_false_iff.mpr c15
  subst c15
  rw [if_neg bn] at H
  have H' := bA H
  clear H
  have hnb31 := NB428_429.out
  have hnc31 := NB429_428.out
  have hnb32 := NB428_430.out
  have hnc32 := NB430_428.out
  have hnb33 := NB428_431.out
  have hnc33 := NB431_428.out
  obtain ⟨hcz34_0, hcz34_1, hfz34_0, hfz34_1⟩ := bc2 BK428
  rotate_left
  replace c13 := Bool.eq_false_iff.mpr c13
  subst c13
  rw [if_neg bn] at H
  have H' := bA H
  clear H
  have hnb43 := NB428_429.out
  have hnc43 := NB429_428.out
  have hnb44 := NB428_430.out
  have hnc44 := NB430_428.out
  have hnb45 := NB428_431.out
  have hnc45 := NB431_428.out
  obtain ⟨hcz46_0, hcz46_1, hfz46_0, hfz46_1⟩ := bc2 BK428
  rotate_left
  replace c11 := Bool.eq_false_iff.mpr c11
  subst c11
  rw [if_neg bn] at H
  have H' := bA H
  clear H
  have hnb52 := NB428_429.out
  have hnc52 := NB429_428.out
  have hnb53 := NB428_430.out
  have hnc53 := NB430_428.out
  have hnb54 := NB428_431.out
  have hnc54 := NB431_428.out
  obtain ⟨hcz55_0, hcz55_1, hfz55_0, hfz55_1⟩ := bc2 BK428
  rotate_left
  all_goals go_wp2_with (first | ((first | ((with_reducible refine gate_callee (f := 40) rfl ?_); refine bC (some 10) Try.func40 #[.agg #[.int .i64 a0_0, .int .i64 a0_1]] ?_) | go_at_call 40); (with_reducible refine (apogeeref10_Right.calls a0_0 a0_1 true _ A10.out).mono ?_); rintro e wz0 ⟨rfl, hb⟩; (first | refine ⟨_, rfl, ?_⟩ | skip); replace BK428 := bA (bB BK428 hb); replace BK429 := bA (bB BK429 hb); replace BK430 := bA (bB BK430 hb); replace BK431 := bA (bB BK431 hb); replace HB := bA (bS hb); (try clear hb); have hz1 := NB429_430.out; have hz2 := NB430_429.out; have hz3 := NB429_431.out; have hz4 := NB431_429.out; obtain ⟨hz5, hz6, hz7, hz8⟩ := bc2 BK429) | (go_at_call 40; (with_reducible refine (apogeeref10_Right.calls a1_0 a1_1 true _ A12.out).mono ?_); rintro e wz1 ⟨rfl, hb⟩; replace BK428 := bA (bB BK428 hb); replace BK429 := bA (bB BK429 hb); replace BK430 := bA (bB BK430 hb); replace BK431 := bA (bB BK431 hb); replace HB := bA (bS hb); (try clear hb); have hz9 := NB430_431.out; have hz10 := NB431_430.out; obtain ⟨hz11, hz12, hz13, hz14⟩ := bc2 BK430) | (go_at_call 40; (with_reducible refine (apogeeref10_Right.calls a2_0 a2_1 true _ A14.out).mono ?_); rintro e wz2 ⟨rfl, hb⟩; replace BK428 := bA (bB BK428 hb); replace BK429 := bA (bB BK429 hb); replace BK430 := bA (bB BK430 hb); replace BK431 := bA (bB BK431 hb); replace HB := bA (bS hb); (try clear hb); obtain ⟨hz15, hz16, hz17, hz18⟩ := bc2 BK431) | (go_at_call 40; (with_reducible refine (apogeeref10_Right.calls a3_0 a3_1 t435 _ A16.out).mono ?_); rintro e wz3 ⟨rfl, hb⟩; replace BK428 := bA (bB BK428 hb); replace BK429 := bA (bB BK429 hb); replace BK430 := bA (bB BK430 hb); replace BK431 := bA (bB BK431 hb); replace HB := bA (bS hb); (try clear hb)) | (go_at_call 40; (with_reducible refine (apogeeref10_Right.calls a2_0 a2_1 false _ A14.out).mono ?_); rintro e wz2 ⟨rfl, hb⟩; replace BK428 := bA (bB BK428 hb); replace BK429 := bA (bB BK429 hb); replace BK430 := bA (bB BK430 hb); replace BK431 := bA (bB BK431 hb); replace HB := bA (bS hb); (try clear hb)) | (go_at_call 40; (with_reducible refine (apogeeref10_Right.calls a1_0 a1_1 false _ A12.out).mono ?_); rintro e wz1 ⟨rfl, hb⟩; replace BK428 := bA (bB BK428 hb); replace BK429 := bA (bB BK429 hb); replace BK430 := bA (bB BK430 hb); replace BK431 := bA (bB BK431 hb); replace HB := bA (bS hb); (try clear hb)) | ((first | ((with_reducible refine gate_callee (f := 40) rfl ?_); refine bC (some 10) Try.func40 #[.agg #[.int .i64 a0_0, .int .i64 a0_1]] ?_) | go_at_call 40); (with_reducible refine (apogeeref10_Right.calls a0_0 a0_1 false _ A10.out).mono ?_); rintro e wz0 ⟨rfl, hb⟩; (first | refine ⟨_, rfl, ?_⟩ | skip); replace BK428 := bA (bB BK428 hb); replace BK429 := bA (bB BK429 hb); replace BK430 := bA (bB BK430 hb); replace BK431 := bA (bB BK431 hb); replace HB := bA (bS hb); (try clear hb)))
  ·go_meet
   case rel => exact ⟨_, (!t435), bs, H', ⟨by first | omega | exact Nat.le_refl _⟩, ⟨by (with_reducible repeat (first | refine blk_drewN ?_ _ | refine blk_drew ?_ | refine blk_alloc ?_ _)); exact BK428.out⟩, ⟨by (with_reducible repeat (first | refine blk_drewN ?_ _ | refine blk_drew ?_ | refine blk_alloc ?_ _)); exact BK429.out⟩, ⟨by (with_reducible repeat (first | refine blk_drewN ?_ _ | refine blk_drew ?_ | refine blk_alloc ?_ _)); exact BK430.out⟩, ⟨by (with_reducible repeat (first | refine blk_drewN ?_ _ | refine blk_drew ?_ | refine blk_alloc ?_ _)); exact BK431.out⟩, ⟨bX⟩⟩
  ·go_meet
   case rel => exact ⟨_, (true), bs, H', ⟨by first | omega | exact Nat.le_refl _⟩, ⟨by (with_reducible repeat (first | refine blk_drewN ?_ _ | refine blk_drew ?_ | refine blk_alloc ?_ _)); exact BK428.out⟩, ⟨by (with_reducible repeat (first | refine blk_drewN ?_ _ | refine blk_drew ?_ | refine blk_alloc ?_ _)); exact BK429.out⟩, ⟨by (with_reducible repeat (first | refine blk_drewN ?_ _ | refine blk_drew ?_ | refine blk_alloc ?_ _)); exact BK430.out⟩, ⟨by (with_reducible repeat (first | refine blk_drewN ?_ _ | refine blk_drew ?_ | refine blk_alloc ?_ _)); exact BK431.out⟩, ⟨bX⟩⟩
  ·go_meet
   case rel => exact ⟨_, (true), bs, H', ⟨by first | omega | exact Nat.le_refl _⟩, ⟨by (with_reducible repeat (first | refine blk_drewN ?_ _ | refine blk_drew ?_ | refine blk_alloc ?_ _)); exact BK428.out⟩, ⟨by (with_reducible repeat (first | refine blk_drewN ?_ _ | refine blk_drew ?_ | refine blk_alloc ?_ _)); exact BK429.out⟩, ⟨by (with_reducible repeat (first | refine blk_drewN ?_ _ | refine blk_drew ?_ | refine blk_alloc ?_ _)); exact BK430.out⟩, ⟨by (with_reducible repeat (first | refine blk_drewN ?_ _ | refine blk_drew ?_ | refine blk_alloc ?_ _)); exact BK431.out⟩, ⟨bX⟩⟩
  go_meet
  case rel => exact ⟨_, (true), bs, H', ⟨by first | omega | exact Nat.le_refl _⟩, ⟨by (with_reducible repeat (first | refine blk_drewN ?_ _ | refine blk_drew ?_ | refine blk_alloc ?_ _)); exact BK428.out⟩, ⟨by (with_reducible repeat (first | refine blk_drewN ?_ _ | refine blk_drew ?_ | refine blk_alloc ?_ _)); exact BK429.out⟩, ⟨by (with_reducible repeat (first | refine blk_drewN ?_ _ | refine blk_drew ?_ | refine blk_alloc ?_ _)); exact BK430.out⟩, ⟨by (with_reducible repeat (first | refine blk_drewN ?_ _ | refine blk_drew ?_ | refine blk_alloc ?_ _)); exact BK431.out⟩, ⟨bX⟩⟩
 clear HC5
 try clear c1
 try clear c2
 try clear p2
 try clear c3
 try clear c4
 try clear c5
 try clear c7
 try clear c11
 try clear c13
 try clear c15
 try clear c17
 try clear c18
 try clear c19
 try clear c22
 try clear c23
 try clear c26
 try clear c31
 try clear c32
 try clear c33
 try clear c36
 try clear c37
 try clear c40
 try clear c43
 try clear c44
 try clear c45
 try clear c48
 try clear c49
 try clear c52
 try clear c53
 try clear c54
 try clear hcz20_0
 try clear hcz20_1
 try clear hcz24_0
 try clear hcz24_1
 try clear hcz27_0
 try clear hcz27_1
 try clear hcz29_0
 try clear hcz29_1
 try clear hcz34_0
 try clear hcz34_1
 try clear hcz38_0
 try clear hcz38_1
 try clear hcz41_0
 try clear hcz41_1
 try clear hcz46_0
 try clear hcz46_1
 try clear hcz50_0
 try clear hcz50_1
 try clear hcz55_0
 try clear hcz55_1
 try clear hfz20_0
 try clear hfz20_1
 try clear hfz24_0
 try clear hfz24_1
 try clear hfz27_0
 try clear hfz27_1
 try clear hfz29_0
 try clear hfz29_1
 try clear hfz34_0
 try clear hfz34_1
 try clear hfz38_0
 try clear hfz38_1
 try clear hfz41_0
 try clear hfz41_1
 try clear hfz46_0
 try clear hfz46_1
 try clear hfz50_0
 try clear hfz50_1
 try clear hfz55_0
 try clear hfz55_1
 obtain ⟨kq, x26_4, rfl, HA, HJ4, BK428, BK429, BK430, BK431, HB⟩ := hcut
 cases kq with
 | zero => exact absurd HA.out (by simp [apogeeref10_Meet.j0])
 | succ kj4 =>
  have H := HA.out
  clear HA
  simp only [apogeeref10_Meet.j0] at H
  by_cases c57 : x26_4 = true
  ·subst c57
   rw [if_pos rfl] at H
   obtain rfl := Option.some.inj H
   go_wp2
   go_ret
   exact bF
  replace c57 := Bool.eq_false_iff.mpr c57
  subst c57
  rw [if_neg bn] at H
  have HC58 := bA H
  clear H
  go_upto_region 3 with (fail)
  go_cut [48] (fun v48 wc => ∃ (kq : Nat) (x48_57 : Bool), v48 = .bool x48_57 ∧ Aside0 (apogeeref10_Meet.j1 kq x48_57 a0_0 a0_1 a1_0 a1_1 a2_0 a2_1 a3_0 a3_1 = some r) ∧ Aside0 (kq ≤ kj4) ∧ Aside0 (wc.heap[gb428]? = some (.cells #[.int .i64 a0_0, .int .i64 a0_1] 41 (0, 0))) ∧ Aside0 (wc.heap[gb429]? = some (.cells #[.int .i64 a1_0, .int .i64 a1_1] 41 (0, 0))) ∧ Aside0 (wc.heap[gb430]? = some (.cells #[.int .i64 a2_0, .int .i64 a2_1] 41 (0, 0))) ∧ Aside0 (wc.heap[gb431]? = some (.cells #[.int .i64 a3_0, .int .i64 a3_1] 41 (0, 0))) ∧ Aside0 (Below w.heap.size w wc))
  case first =>
   have H := HC58.out
   clear HC58
   replace H := Option.bind_eq_some_iff.mp H
   obtain ⟨t436, A590, H⟩ := H
   have A59 := bA A590
   clear A590
   by_cases c60 : t436 = true
   subst c60
   rw [if_pos rfl] at H
   have H' := bA H
   clear H
   have hnb61 := NB428_429.out
   have hnc61 := NB429_428.out
   have hnb62 := NB428_430.out
   have hnc62 := NB430_428.out
   have hnb63 := NB428_431.out
   have hnc63 := NB431_428.out
   obtain ⟨hcz64_0, hcz64_1, hfz64_0, hfz64_1⟩ := bc2 BK428
   have hnb65 := NB430_429.out
   have hnc65 := NB429_430.out
   have hnb66 := NB430_431.out
   have hnc66 := NB431_430.out
   obtain ⟨hcz67_0, hcz67_1, hfz67_0, hfz67_1⟩ := bc2 BK430
   have hnb68 := NB431_429.out
   have hnc68 := NB429_431.out
   obtain ⟨hcz69_0, hcz69_1, hfz69_0, hfz69_1⟩ := bc2 BK431
   rotate_left
   replace c60 := Bool.eq_false_iff.mpr c60
   subst c60
   rw [if_neg bn] at H
   replace H := Option.bind_eq_some_iff.mp H
   obtain ⟨t437, A710, H⟩ := H
   have A71 := bA A710
   clear A710
   by_cases c72 : t437 = true
   subst c72
   rw [if_pos rfl] at H
   have H' := bA H
   clear H
   have hnb73 := NB428_429.out
   have hnc73 := NB429_428.out
   have hnb74 := NB428_430.out
   have hnc74 := NB430_428.out
   have hnb75 := NB428_431.out
   have hnc75 := NB431_428.out
   obtain ⟨hcz76_0, hcz76_1, hfz76_0, hfz76_1⟩ := bc2 BK428
   have hnb77 := NB430_429.out
   have hnc77 := NB429_430.out
   have hnb78 := NB430_431.out
   have hnc78 := NB431_430.out
   obtain ⟨hcz79_0, hcz79_1, hfz79_0, hfz79_1⟩ := bc2 BK430
   have hnb80 := NB431_429.out
   have hnc80 := NB429_431.out
   obtain ⟨hcz81_0, hcz81_1, hfz81_0, hfz81_1⟩ := bc2 BK431
   rotate_left
   replace c72 := Bool.eq_false_iff.mpr c72
   subst c72
   rw [if_neg bn] at H
   replace H := Option.bind_eq_some_iff.mp H
   obtain ⟨t438, A870, H⟩ := H
   have A87 := bA A870
   clear A870
   by_cases c88 : t438 = true
   subst c88
   rw [if_pos rfl] at H
   have H' := bA H
   clear H
   have hnb89 := NB428_429.out
   have hnc89 := NB429_428.out
   have hnb90 := NB428_430.out
   have hnc90 := NB430_428.out
   have hnb91 := NB428_431.out
   have hnc91 := NB431_428.out
   obtain ⟨hcz92_0, hcz92_1, hfz92_0, hfz92_1⟩ := bc2 BK428
   have hnb93 := NB430_429.out
   have hnc93 := NB429_430.out
   have hnb94 := NB430_431.out
   have hnc94 := NB431_430.out
   obtain ⟨hcz95_0, hcz95_1, hfz95_0, hfz95_1⟩ := bc2 BK430
   have hnb96 := NB431_429.out
   have hnc96 := NB429_431.out
   obtain ⟨hcz97_0, hcz97_1, hfz97_0, hfz97_1⟩ := bc2 BK431
   rotate_left
   replace c88 := Bool.eq_false_iff.mpr c88
   subst c88
   rw [if_neg bn] at H
   replace H := Option.bind_eq_some_iff.mp H
   obtain ⟨t439, A1070, H⟩ := H
   have A107 := bA A1070
   clear A1070
   have H' := bA H
   clear H
   have hnb108 := NB428_429.out
   have hnc108 := NB429_428.out
   have hnb109 := NB428_430.out
   have hnc109 := NB430_428.out
   have hnb110 := NB428_431.out
   have hnc110 := NB431_428.out
   obtain ⟨hcz111_0, hcz111_1, hfz111_0, hfz111_1⟩ := bc2 BK428
   have hnb112 := NB430_429.out
   have hnc112 := NB429_430.out
   have hnb113 := NB430_431.out
   have hnc113 := NB431_430.out
   obtain ⟨hcz114_0, hcz114_1, hfz114_0, hfz114_1⟩ := bc2 BK430
   have hnb115 := NB431_429.out
   have hnc115 := NB429_431.out
   obtain ⟨hcz116_0, hcz116_1, hfz116_0, hfz116_1⟩ := bc2 BK431
   rotate_left
   all_goals go_wp2_with (first | ((first | ((with_reducible refine gate_callee (f := 70) rfl ?_); refine bC (some 30) Try.func70 #[.agg #[.int .i64 a0_0, .int .i64 a0_1], .agg #[.int .i64 a2_0, .int .i64 a2_1], .agg #[.int .i64 a3_0, .int .i64 a3_1]] ?_) | go_at_call 70); (with_reducible refine (apogeeref10_On.calls kj4 a0_0 a0_1 a2_0 a2_1 a3_0 a3_1 true _ A59.out).mono ?_); rintro e wz0 ⟨rfl, hb⟩; (first | refine ⟨_, rfl, ?_⟩ | skip); replace BK428 := bA (bB BK428 hb); replace BK429 := bA (bB BK429 hb); replace BK430 := bA (bB BK430 hb); replace BK431 := bA (bB BK431 hb); replace HB := bA (bS hb); (try clear hb)) | ((first | ((with_reducible refine gate_callee (f := 70) rfl ?_); refine bC (some 30) Try.func70 #[.agg #[.int .i64 a0_0, .int .i64 a0_1], .agg #[.int .i64 a2_0, .int .i64 a2_1], .agg #[.int .i64 a3_0, .int .i64 a3_1]] ?_) | go_at_call 70); (with_reducible refine (apogeeref10_On.calls kj4 a0_0 a0_1 a2_0 a2_1 a3_0 a3_1 false _ A59.out).mono ?_); rintro e wz0 ⟨rfl, hb⟩; (first | refine ⟨_, rfl, ?_⟩ | skip); replace BK428 := bA (bB BK428 hb); replace BK429 := bA (bB BK429 hb); replace BK430 := bA (bB BK430 hb); replace BK431 := bA (bB BK431 hb); replace HB := bA (bS hb); (try clear hb); obtain ⟨hz1, hz2, hz3, hz4⟩ := bc2 BK429; obtain ⟨hz5, hz6, hz7, hz8⟩ := bc2 BK430; obtain ⟨hz9, hz10, hz11, hz12⟩ := bc2 BK431) | (go_at_call 70; (with_reducible refine (apogeeref10_On.calls kj4 a1_0 a1_1 a2_0 a2_1 a3_0 a3_1 true _ A71.out).mono ?_); rintro e wz1 ⟨rfl, hb⟩; replace BK428 := bA (bB BK428 hb); replace BK429 := bA (bB BK429 hb); replace BK430 := bA (bB BK430 hb); replace BK431 := bA (bB BK431 hb); replace HB := bA (bS hb); (try clear hb)) | (go_at_call 70; (with_reducible refine (apogeeref10_On.calls kj4 a1_0 a1_1 a2_0 a2_1 a3_0 a3_1 false _ A71.out).mono ?_); rintro e wz1 ⟨rfl, hb⟩; replace BK428 := bA (bB BK428 hb); replace BK429 := bA (bB BK429 hb); replace BK430 := bA (bB BK430 hb); replace BK431 := bA (bB BK431 hb); replace HB := bA (bS hb); (try clear hb); obtain ⟨hz13, hz14, hz7, hz8⟩ := bc2 BK430; obtain ⟨hz15, hz16, hz17, hz18⟩ := bc2 BK428; obtain ⟨hz19, hz20, hz3, hz4⟩ := bc2 BK429) | (go_at_call 70; (with_reducible refine (apogeeref10_On.calls kj4 a2_0 a2_1 a0_0 a0_1 a1_0 a1_1 true _ A87.out).mono ?_); rintro e wz2 ⟨rfl, hb⟩; replace BK428 := bA (bB BK428 hb); replace BK429 := bA (bB BK429 hb); replace BK430 := bA (bB BK430 hb); replace BK431 := bA (bB BK431 hb); replace HB := bA (bS hb); (try clear hb)) | (go_at_call 70; (with_reducible refine (apogeeref10_On.calls kj4 a2_0 a2_1 a0_0 a0_1 a1_0 a1_1 false _ A87.out).mono ?_); rintro e wz2 ⟨rfl, hb⟩; replace BK428 := bA (bB BK428 hb); replace BK429 := bA (bB BK429 hb); replace BK430 := bA (bB BK430 hb); replace BK431 := bA (bB BK431 hb); replace HB := bA (bS hb); (try clear hb); obtain ⟨hz21, hz22, hz11, hz12⟩ := bc2 BK431; obtain ⟨hz23, hz24, hz17, hz18⟩ := bc2 BK428; obtain ⟨hz25, hz26, hz3, hz4⟩ := bc2 BK429) | (go_at_call 70; (with_reducible refine (apogeeref10_On.calls kj4 a3_0 a3_1 a0_0 a0_1 a1_0 a1_1 t439 _ A107.out).mono ?_); rintro e wz3 ⟨rfl, hb⟩; replace BK428 := bA (bB BK428 hb); replace BK429 := bA (bB BK429 hb); replace BK430 := bA (bB BK430 hb); replace BK431 := bA (bB BK431 hb); replace HB := bA (bS hb); (try clear hb)))
   ·go_meet
    case rel => exact ⟨_, (true), bs, H', ⟨by have := HJ4.out; first | omega | exact Nat.le_refl _⟩, ⟨by (with_reducible repeat (first | refine blk_drewN ?_ _ | refine blk_drew ?_ | refine blk_alloc ?_ _)); exact BK428.out⟩, ⟨by (with_reducible repeat (first | refine blk_drewN ?_ _ | refine blk_drew ?_ | refine blk_alloc ?_ _)); exact BK429.out⟩, ⟨by (with_reducible repeat (first | refine blk_drewN ?_ _ | refine blk_drew ?_ | refine blk_alloc ?_ _)); exact BK430.out⟩, ⟨by (with_reducible repeat (first | refine blk_drewN ?_ _ | refine blk_drew ?_ | refine blk_alloc ?_ _)); exact BK431.out⟩, ⟨bX⟩⟩
   ·go_meet
    case rel => exact ⟨_, (true), bs, H', ⟨by have := HJ4.out; first | omega | exact Nat.le_refl _⟩, ⟨by (with_reducible repeat (first | refine blk_drewN ?_ _ | refine blk_drew ?_ | refine blk_alloc ?_ _)); exact BK428.out⟩, ⟨by (with_reducible repeat (first | refine blk_drewN ?_ _ | refine blk_drew ?_ | refine blk_alloc ?_ _)); exact BK429.out⟩, ⟨by (with_reducible repeat (first | refine blk_drewN ?_ _ | refine blk_drew ?_ | refine blk_alloc ?_ _)); exact BK430.out⟩, ⟨by (with_reducible repeat (first | refine blk_drewN ?_ _ | refine blk_drew ?_ | refine blk_alloc ?_ _)); exact BK431.out⟩, ⟨bX⟩⟩
   ·go_meet
    case rel => exact ⟨_, (true), bs, H', ⟨by have := HJ4.out; first | omega | exact Nat.le_refl _⟩, ⟨by (with_reducible repeat (first | refine blk_drewN ?_ _ | refine blk_drew ?_ | refine blk_alloc ?_ _)); exact BK428.out⟩, ⟨by (with_reducible repeat (first | refine blk_drewN ?_ _ | refine blk_drew ?_ | refine blk_alloc ?_ _)); exact BK429.out⟩, ⟨by (with_reducible repeat (first | refine blk_drewN ?_ _ | refine blk_drew ?_ | refine blk_alloc ?_ _)); exact BK430.out⟩, ⟨by (with_reducible repeat (first | refine blk_drewN ?_ _ | refine blk_drew ?_ | refine blk_alloc ?_ _)); exact BK431.out⟩, ⟨bX⟩⟩
   go_meet
   case rel => exact ⟨_, (t439), bs, H', ⟨by have := HJ4.out; first | omega | exact Nat.le_refl _⟩, ⟨by (with_reducible repeat (first | refine blk_drewN ?_ _ | refine blk_drew ?_ | refine blk_alloc ?_ _)); exact BK428.out⟩, ⟨by (with_reducible repeat (first | refine blk_drewN ?_ _ | refine blk_drew ?_ | refine blk_alloc ?_ _)); exact BK429.out⟩, ⟨by (with_reducible repeat (first | refine blk_drewN ?_ _ | refine blk_drew ?_ | refine blk_alloc ?_ _)); exact BK430.out⟩, ⟨by (with_reducible repeat (first | refine blk_drewN ?_ _ | refine blk_drew ?_ | refine blk_alloc ?_ _)); exact BK431.out⟩, ⟨bX⟩⟩
  clear HC58
  try clear c1
  try clear c2
  try clear p2
  try clear c3
  try clear c4
  try clear c5
  try clear c6
  try clear c7
  try clear c8
  try clear c9
  try clear c10
  try clear c11
  try clear c13
  try clear c15
  try clear c17
  try clear c18
  try clear c19
  try clear c22
  try clear c23
  try clear c26
  try clear c31
  try clear c32
  try clear c33
  try clear c36
  try clear c37
  try clear c40
  try clear c43
  try clear c44
  try clear c45
  try clear c48
  try clear c49
  try clear c52
  try clear c53
  try clear c54
  try clear c57
  try clear c60
  try clear c61
  try clear c62
  try clear c63
  try clear c65
  try clear c66
  try clear c68
  try clear c70
  try clear c71
  try clear c72
  try clear c73
  try clear c74
  try clear c75
  try clear c77
  try clear c78
  try clear c80
  try clear c88
  try clear c89
  try clear c90
  try clear c91
  try clear c93
  try clear c94
  try clear c96
  try clear c108
  try clear c109
  try clear c110
  try clear c112
  try clear c113
  try clear c115
  try clear hcz100_0
  try clear hcz100_1
  try clear hcz101_0
  try clear hcz101_1
  try clear hcz103_0
  try clear hcz103_1
  try clear hcz104_0
  try clear hcz104_1
  try clear hcz105_0
  try clear hcz105_1
  try clear hcz111_0
  try clear hcz111_1
  try clear hcz114_0
  try clear hcz114_1
  try clear hcz116_0
  try clear hcz116_1
  try clear hcz118_0
  try clear hcz118_1
  try clear hcz119_0
  try clear hcz119_1
  try clear hcz120_0
  try clear hcz120_1
  try clear hcz122_0
  try clear hcz122_1
  try clear hcz123_0
  try clear hcz123_1
  try clear hcz124_0
  try clear hcz124_1
  try clear hcz126_0
  try clear hcz126_1
  try clear hcz127_0
  try clear hcz127_1
  try clear hcz128_0
  try clear hcz128_1
  try clear hcz20_0
  try clear hcz20_1
  try clear hcz24_0
  try clear hcz24_1
  try clear hcz27_0
  try clear hcz27_1
  try clear hcz29_0
  try clear hcz29_1
  try clear hcz34_0
  try clear hcz34_1
  try clear hcz38_0
  try clear hcz38_1
  try clear hcz41_0
  try clear hcz41_1
  try clear hcz46_0
  try clear hcz46_1
  try clear hcz50_0
  try clear hcz50_1
  try clear hcz55_0
  try clear hcz55_1
  try clear hcz64_0
  try clear hcz64_1
  try clear hcz67_0
  try clear hcz67_1
  try clear hcz69_0
  try clear hcz69_1
  try clear hcz76_0
  try clear hcz76_1
  try clear hcz79_0
  try clear hcz79_1
  try clear hcz81_0
  try clear hcz81_1
  try clear hcz83_0
  try clear hcz83_1
  try clear hcz84_0
  try clear hcz84_1
  try clear hcz85_0
  try clear hcz85_1
  try clear hcz92_0
  try clear hcz92_1
  try clear hcz95_0
  try clear hcz95_1
  try clear hcz97_0
  try clear hcz97_1
  try clear hcz99_0
  try clear hcz99_1
  try clear hfz100_0
  try clear hfz100_1
  try clear hfz101_0
  try clear hfz101_1
  try clear hfz103_0
  try clear hfz103_1
  try clear hfz104_0
  try clear hfz104_1
  try clear hfz105_0
  try clear hfz105_1
  try clear hfz111_0
  try clear hfz111_1
  try clear hfz114_0
  try clear hfz114_1
  try clear hfz116_0
  try clear hfz116_1
  try clear hfz118_0
  try clear hfz118_1
  try clear hfz119_0
  try clear hfz119_1
  try clear hfz120_0
  try clear hfz120_1
  try clear hfz122_0
  try clear hfz122_1
  try clear hfz123_0
  try clear hfz123_1
  try clear hfz124_0
  try clear hfz124_1
  try clear hfz126_0
  try clear hfz126_1
  try clear hfz127_0
  try clear hfz127_1
  try clear hfz128_0
  try clear hfz128_1
  try clear hfz20_0
  try clear hfz20_1
  try clear hfz24_0
  try clear hfz24_1
  try clear hfz27_0
  try clear hfz27_1
  try clear hfz29_0
  try clear hfz29_1
  try clear hfz34_0
  try clear hfz34_1
  try clear hfz38_0
  try clear hfz38_1
  try clear hfz41_0
  try clear hfz41_1
  try clear hfz46_0
  try clear hfz46_1
  try clear hfz50_0
  try clear hfz50_1
  try clear hfz55_0
  try clear hfz55_1
  try clear hfz64_0
  try clear hfz64_1
  try clear hfz67_0
  try clear hfz67_1
  try clear hfz69_0
  try clear hfz69_1
  try clear hfz76_0
  try clear hfz76_1
  try clear hfz79_0
  try clear hfz79_1
  try clear hfz81_0
  try clear hfz81_1
  try clear hfz83_0
  try clear hfz83_1
  try clear hfz84_0
  try clear hfz84_1
  try clear hfz85_0
  try clear hfz85_1
  try clear hfz92_0
  try clear hfz92_1
  try clear hfz95_0
  try clear hfz95_1
  try clear hfz97_0
  try clear hfz97_1
  try clear hfz99_0
  try clear hfz99_1
  try clear p2
  obtain ⟨kq, x48_57, rfl, HA, HJ57, BK428, BK429, BK430, BK431, HB⟩ := hcut
  cases kq with
  | zero => exact absurd HA.out (by simp [apogeeref10_Meet.j1])
  | succ kj57 =>
   have H := HA.out
   clear HA
   simp only [apogeeref10_Meet.j1] at H
   by_cases c130 : x48_57 = true
   ·subst c130
    rw [if_pos rfl] at H
    obtain rfl := Option.some.inj H
    go_wp2
    go_ret
    exact bF
   replace c130 := Bool.eq_false_iff.mpr c130
   subst c130
   rw [if_neg bn] at H
   replace H := Option.bind_eq_some_iff.mp H
   obtain ⟨t440, A1310, H⟩ := H
   have A131 := bA A1310
   clear A1310
   replace H := Option.bind_eq_some_iff.mp H
   obtain ⟨t441, A1320, H⟩ := H
   have A132 := bA A1320
   clear A1320
   by_cases c133 : (wrap64 (t440 * t441)) < 0
   rotate_left
   ·rw [if_neg c133] at H
    have c133b0 : decide ((wrap64 (t440 * t441)) < 0) = false := decide_eq_false c133
    clear c133
    obtain rfl := Option.some.inj H
    try go_wp2
    replace BK428 := bA (blk_drew BK428.out)
    replace BK429 := bA (blk_drew BK429.out)
    replace BK430 := bA (blk_drew BK430.out)
    replace BK431 := bA (blk_drew BK431.out)
    replace HB := bA (below_drew1 HB.out)
    refine start_ (n := 23) (S := fun w' => w'.cell? ⟨gb428, 0, none⟩ = some (.int .i64 a0_0) ∧ w'.cell? ⟨gb428, 1, none⟩ = some (.int .i64 a0_1) ∧ w'.cell? ⟨gb429, 0, none⟩ = some (.int .i64 a1_0) ∧ w'.cell? ⟨gb429, 1, none⟩ = some (.int .i64 a1_1) ∧ w'.cell? ⟨gb430, 0, none⟩ = some (.int .i64 a2_0) ∧ w'.cell? ⟨gb430, 1, none⟩ = some (.int .i64 a2_1) ∧ w'.cell? ⟨gb431, 0, none⟩ = some (.int .i64 a3_0) ∧ w'.cell? ⟨gb431, 1, none⟩ = some (.int .i64 a3_1)) (ds := []) #[false,false,false,false,false,false,false,false,false,false,false,false,false,false,false,false,false,false,false,false,false,false,false] (by kernel_rfl) rfl rfl ⟨bq BK428 0, bq BK428 1, bq BK429 0, bq BK429 1, bq BK430 0, bq BK430 1, bq BK431 0, bq BK431 1⟩ (fun hHeld => ?_); refine with_tabW apogeeref10_Meet.tab5 apogeeref10_Meet.bits5 (fun HT_ HW_ => ?_)
    generalize wc.drew = w141 at BK428 BK429 BK430 BK431 HB hHeld ⊢
    refine bW (i := 0) (N := some 49) hHeld ?_
    refine bW (i := 1) (N := some 50) hHeld ?_
    refine bW (i := 2) (N := some 51) hHeld ?_
    refine bW (i := 4) (N := some 53) hHeld ?_
    refine bW (i := 5) (N := some 54) hHeld ?_
    refine bW (i := 6) (N := some 55) hHeld ?_
    refine one_ (i := 3) (N := some 52) #[true,true,true,true,true,true,true,false,false,false,false,false,false,false,false,false,false,false,false,false,false,false,false] rfl rfl (one_of HT_.out (by kernel_rfl)) (by decide) (fun K hK => ?_)
    refine goes_ Try.func75 (by kernel_rfl) rfl #[.agg #[.int .i64 a0_0, .int .i64 a0_1], .agg #[.int .i64 a1_0, .int .i64 a1_1], .agg #[.int .i64 a2_0, .int .i64 a2_1]] (by rfl) rfl rfl (by (try simp only [List.map_toArray, List.map_cons, List.map_nil]); first | done | rfl | (simp only [List.length_drop, List.length_take]; rfl)) ?_
    with_reducible refine (apogeeref10_Turn.calls kj57 a0_0 a0_1 a1_0 a1_1 a2_0 a2_1 t440 _ A131.out).mono ?_
    rintro e w142 ⟨rfl, hb⟩
    refine ⟨_, rfl, ?_⟩
    replace BK428 := bA (bB BK428 hb)
    replace BK429 := bA (bB BK429 hb)
    replace BK430 := bA (bB BK430 hb)
    replace BK431 := bA (bB BK431 hb)
    replace HB := bA (bS hb)
    (try clear hb)
    refine hK.out _ _ ⟨bq BK428 0, bq BK428 1, bq BK429 0, bq BK429 1, bq BK430 0, bq BK430 1, bq BK431 0, bq BK431 1⟩ (fun hHeld => ?_)
    clear hK K
    refine bI 52 ?_
    refine one_ (i := 7) (N := some 56) #[true,true,true,true,true,true,true,true,false,false,false,false,false,false,false,false,false,false,false,false,false,false,false] rfl rfl (one_of HT_.out (by kernel_rfl)) (by decide) (fun K hK => ?_)
    refine goes_ Try.func75 (by kernel_rfl) rfl #[.agg #[.int .i64 a0_0, .int .i64 a0_1], .agg #[.int .i64 a1_0, .int .i64 a1_1], .agg #[.int .i64 a3_0, .int .i64 a3_1]] (by rfl) rfl rfl (by (try simp only [List.map_toArray, List.map_cons, List.map_nil]); first | done | rfl | (simp only [List.length_drop, List.length_take]; rfl)) ?_
    with_reducible refine (apogeeref10_Turn.calls kj57 a0_0 a0_1 a1_0 a1_1 a3_0 a3_1 t441 _ A132.out).mono ?_
    rintro e w143 ⟨rfl, hb⟩
    refine ⟨_, rfl, ?_⟩
    replace BK428 := bA (bB BK428 hb)
    replace BK429 := bA (bB BK429 hb)
    replace BK430 := bA (bB BK430 hb)
    replace BK431 := bA (bB BK431 hb)
    replace HB := bA (bS hb)
    (try clear hb)
    refine hK.out _ _ ⟨bq BK428 0, bq BK428 1, bq BK429 0, bq BK429 1, bq BK430 0, bq BK430 1, bq BK431 0, bq BK431 1⟩ (fun hHeld => ?_)
    clear hK K
    refine bI 56 ?_
    refine bU (i := 8) (N := some 57) ?_
    refine bU (i := 9) (N := some 58) ?_
    refine bU (i := 10) (N := some 59) ?_
    refine pure_ (i := 11) (N := some 60) (v := undef) (a' := ?_) #[true,true,true,true,true,true,true,true,true,true,true,true,false,false,false,false,false,false,false,false,false,false,false] rfl rfl (any_of HT_.out (by kernel_rfl)) (fun _ _ _ h => h) (Or.inr ⟨by rfl, rfl⟩) ?_ ?_
    rotate_left
    ·simp only [Act.put, List.setIfInBounds_toArray, List.set_cons_zero, List.set_cons_succ, i64_w, i32_w]
     rfl
    refine pure_ (i := 12) (N := some 61) (v := undef) (a' := ?_) #[true,true,true,true,true,true,true,true,true,true,true,true,true,false,false,false,false,false,false,false,false,false,false] rfl rfl (any_of HT_.out (by kernel_rfl)) (fun _ _ _ h => h) (Or.inr ⟨by rfl, rfl⟩) ?_ ?_
    rotate_left
    ·simp only [Act.put, List.setIfInBounds_toArray, List.set_cons_zero, List.set_cons_succ, i64_w, i32_w]
     rfl
    refine pure_ (i := 13) (N := some 62) (v := undef) (a' := ?_) #[true,true,true,true,true,true,true,true,true,true,true,true,true,true,false,false,false,false,false,false,false,false,false] rfl rfl (any_of HT_.out (by kernel_rfl)) (fun _ _ _ h => h) (Or.inr ⟨by rfl, rfl⟩) ?_ ?_
    rotate_left
    ·simp only [Act.put, List.setIfInBounds_toArray, List.set_cons_zero, List.set_cons_succ, i64_w, i32_w]
     rfl
    refine pure_ (i := 14) (N := some 63) (v := undef) (a' := ?_) #[true,true,true,true,true,true,true,true,true,true,true,true,true,true,true,false,false,false,false,false,false,false,false] rfl rfl (any_of HT_.out (by kernel_rfl)) (fun _ _ _ h => h) (Or.inr ⟨by rfl, rfl⟩) ?_ ?_
    rotate_left
    ·simp only [Act.put, List.setIfInBounds_toArray, List.set_cons_zero, List.set_cons_succ, i64_w, i32_w]
     rfl
    refine pure_ (i := 15) (N := some 64) (v := undef) (a' := ?_) #[true,true,true,true,true,true,true,true,true,true,true,true,true,true,true,true,false,false,false,false,false,false,false] rfl rfl (any_of HT_.out (by kernel_rfl)) (fun _ _ _ h => h) (Or.inr ⟨by rfl, rfl⟩) ?_ ?_
    rotate_left
    ·simp only [Act.put, List.setIfInBounds_toArray, List.set_cons_zero, List.set_cons_succ, i64_w, i32_w]
     rfl
    refine pure_ (i := 16) (N := some 65) (v := undef) (a' := ?_) #[true,true,true,true,true,true,true,true,true,true,true,true,true,true,true,true,true,false,false,false,false,false,false] rfl rfl (any_of HT_.out (by kernel_rfl)) (fun _ _ _ h => h) (Or.inr ⟨by rfl, rfl⟩) ?_ ?_
    rotate_left
    ·simp only [Act.put, List.setIfInBounds_toArray, List.set_cons_zero, List.set_cons_succ, i64_w, i32_w]
     rfl
    refine pure_ (i := 17) (N := some 66) (v := undef) (a' := ?_) #[true,true,true,true,true,true,true,true,true,true,true,true,true,true,true,true,true,true,false,false,false,false,false] rfl rfl (any_of HT_.out (by kernel_rfl)) (fun _ _ _ h => h) (Or.inr ⟨by rfl, rfl⟩) ?_ ?_
    rotate_left
    ·simp only [Act.put, List.setIfInBounds_toArray, List.set_cons_zero, List.set_cons_succ, i64_w, i32_w]
     rfl
    refine pure_ (i := 18) (N := some 67) (v := undef) (a' := ?_) #[true,true,true,true,true,true,true,true,true,true,true,true,true,true,true,true,true,true,true,false,false,false,false] rfl rfl (any_of HT_.out (by kernel_rfl)) (fun _ _ _ h => h) (Or.inr ⟨by rfl, rfl⟩) ?_ ?_
    rotate_left
    ·simp only [Act.put, List.setIfInBounds_toArray, List.set_cons_zero, List.set_cons_succ, i64_w, i32_w]
     rfl
    refine pure_ (i := 19) (N := some 68) (v := undef) (a' := ?_) #[true,true,true,true,true,true,true,true,true,true,true,true,true,true,true,true,true,true,true,true,false,false,false] rfl rfl (any_of HT_.out (by kernel_rfl)) (fun _ _ _ h => h) (Or.inr ⟨by rfl, rfl⟩) ?_ ?_
    rotate_left
    ·simp only [Act.put, List.setIfInBounds_toArray, List.set_cons_zero, List.set_cons_succ, i64_w, i32_w]
     rfl
    refine pure_ (i := 20) (N := some 69) (v := undef) (a' := ?_) #[true,true,true,true,true,true,true,true,true,true,true,true,true,true,true,true,true,true,true,true,true,false,false] rfl rfl (any_of HT_.out (by kernel_rfl)) (fun _ _ _ h => h) (Or.inr ⟨by rfl, rfl⟩) ?_ ?_
    rotate_left
    ·simp only [Act.put, List.setIfInBounds_toArray, List.set_cons_zero, List.set_cons_succ, i64_w, i32_w]
     rfl
    refine bU (i := 21) (N := some 70) ?_
    refine bU (i := 22) (N := some 8) ?_
    refine done_ (done_of HT_.out (by kernel_rfl)) ?_
    try go_wp2
    go_ret
    exact bF
   rw [if_pos c133] at H
   have c133b0 : decide ((wrap64 (t440 * t441)) < 0) = true := decide_eq_true c133
   clear c133
   replace H := Option.bind_eq_some_iff.mp H
   obtain ⟨t442, A1340, H⟩ := H
   have A134 := bA A1340
   clear A1340
   replace H := Option.bind_eq_some_iff.mp H
   obtain ⟨t443, A1350, H⟩ := H
   have A135 := bA A1350
   clear A1350
   obtain rfl := Option.some.inj H
   try go_wp2
   replace BK428 := bA (blk_drew BK428.out)
   replace BK429 := bA (blk_drew BK429.out)
   replace BK430 := bA (blk_drew BK430.out)
   replace BK431 := bA (blk_drew BK431.out)
   replace HB := bA (below_drew1 HB.out)
   refine start_ (n := 23) (S := fun w' => w'.cell? ⟨gb428, 0, none⟩ = some (.int .i64 a0_0) ∧ w'.cell? ⟨gb428, 1, none⟩ = some (.int .i64 a0_1) ∧ w'.cell? ⟨gb429, 0, none⟩ = some (.int .i64 a1_0) ∧ w'.cell? ⟨gb429, 1, none⟩ = some (.int .i64 a1_1) ∧ w'.cell? ⟨gb430, 0, none⟩ = some (.int .i64 a2_0) ∧ w'.cell? ⟨gb430, 1, none⟩ = some (.int .i64 a2_1) ∧ w'.cell? ⟨gb431, 0, none⟩ = some (.int .i64 a3_0) ∧ w'.cell? ⟨gb431, 1, none⟩ = some (.int .i64 a3_1)) (ds := []) #[false,false,false,false,false,false,false,false,false,false,false,false,false,false,false,false,false,false,false,false,false,false,false] (by kernel_rfl) rfl rfl ⟨bq BK428 0, bq BK428 1, bq BK429 0, bq BK429 1, bq BK430 0, bq BK430 1, bq BK431 0, bq BK431 1⟩ (fun hHeld => ?_); refine with_tabW apogeeref10_Meet.tab5 apogeeref10_Meet.bits5 (fun HT_ HW_ => ?_)
   generalize wc.drew = w136 at BK428 BK429 BK430 BK431 HB hHeld ⊢
   refine bW (i := 0) (N := some 49) hHeld ?_
   refine bW (i := 1) (N := some 50) hHeld ?_
   refine bW (i := 2) (N := some 51) hHeld ?_
   refine bW (i := 4) (N := some 53) hHeld ?_
   refine bW (i := 5) (N := some 54) hHeld ?_
   refine bW (i := 6) (N := some 55) hHeld ?_
   refine one_ (i := 3) (N := some 52) #[true,true,true,true,true,true,true,false,false,false,false,false,false,false,false,false,false,false,false,false,false,false,false] rfl rfl (one_of HT_.out (by kernel_rfl)) (by decide) (fun K hK => ?_)
   refine goes_ Try.func75 (by kernel_rfl) rfl #[.agg #[.int .i64 a0_0, .int .i64 a0_1], .agg #[.int .i64 a1_0, .int .i64 a1_1], .agg #[.int .i64 a2_0, .int .i64 a2_1]] (by rfl) rfl rfl (by (try simp only [List.map_toArray, List.map_cons, List.map_nil]); first | done | rfl | (simp only [List.length_drop, List.length_take]; rfl)) ?_
   with_reducible refine (apogeeref10_Turn.calls kj57 a0_0 a0_1 a1_0 a1_1 a2_0 a2_1 t440 _ A131.out).mono ?_
   rintro e w137 ⟨rfl, hb⟩
   refine ⟨_, rfl, ?_⟩
   replace BK428 := bA (bB BK428 hb)
   replace BK429 := bA (bB BK429 hb)
   replace BK430 := bA (bB BK430 hb)
   replace BK431 := bA (bB BK431 hb)
   replace HB := bA (bS hb)
   (try clear hb)
   refine hK.out _ _ ⟨bq BK428 0, bq BK428 1, bq BK429 0, bq BK429 1, bq BK430 0, bq BK430 1, bq BK431 0, bq BK431 1⟩ (fun hHeld => ?_)
   clear hK K
   refine bI 52 ?_
   refine one_ (i := 7) (N := some 56) #[true,true,true,true,true,true,true,true,false,false,false,false,false,false,false,false,false,false,false,false,false,false,false] rfl rfl (one_of HT_.out (by kernel_rfl)) (by decide) (fun K hK => ?_)
   refine goes_ Try.func75 (by kernel_rfl) rfl #[.agg #[.int .i64 a0_0, .int .i64 a0_1], .agg #[.int .i64 a1_0, .int .i64 a1_1], .agg #[.int .i64 a3_0, .int .i64 a3_1]] (by rfl) rfl rfl (by (try simp only [List.map_toArray, List.map_cons, List.map_nil]); first | done | rfl | (simp only [List.length_drop, List.length_take]; rfl)) ?_
   with_reducible refine (apogeeref10_Turn.calls kj57 a0_0 a0_1 a1_0 a1_1 a3_0 a3_1 t441 _ A132.out).mono ?_
   rintro e w138 ⟨rfl, hb⟩
   refine ⟨_, rfl, ?_⟩
   replace BK428 := bA (bB BK428 hb)
   replace BK429 := bA (bB BK429 hb)
   replace BK430 := bA (bB BK430 hb)
   replace BK431 := bA (bB BK431 hb)
   replace HB := bA (bS hb)
   (try clear hb)
   refine hK.out _ _ ⟨bq BK428 0, bq BK428 1, bq BK429 0, bq BK429 1, bq BK430 0, bq BK430 1, bq BK431 0, bq BK431 1⟩ (fun hHeld => ?_)
   clear hK K
   refine bI 56 ?_
   refine bU (i := 8) (N := some 57) ?_
   refine bU (i := 9) (N := some 58) ?_
   refine bU (i := 10) (N := some 59) ?_
   refine bW (i := 11) (N := some 60) hHeld ?_
   refine bW (i := 12) (N := some 61) hHeld ?_
   refine bW (i := 13) (N := some 62) hHeld ?_
   refine bW (i := 15) (N := some 64) hHeld ?_
   refine bW (i := 16) (N := some 65) hHeld ?_
   refine bW (i := 17) (N := some 66) hHeld ?_
   refine one_ (i := 14) (N := some 63) #[true,true,true,true,true,true,true,true,true,true,true,true,true,true,true,true,true,true,false,false,false,false,false] rfl rfl (one_of HT_.out (by kernel_rfl)) (by decide) (fun K hK => ?_)
   refine goes_ Try.func75 (by kernel_rfl) rfl #[.agg #[.int .i64 a2_0, .int .i64 a2_1], .agg #[.int .i64 a3_0, .int .i64 a3_1], .agg #[.int .i64 a0_0, .int .i64 a0_1]] (by rfl) rfl rfl (by (try simp only [List.map_toArray, List.map_cons, List.map_nil]); first | done | rfl | (simp only [List.length_drop, List.length_take]; rfl)) ?_
   with_reducible refine (apogeeref10_Turn.calls kj57 a2_0 a2_1 a3_0 a3_1 a0_0 a0_1 t442 _ A134.out).mono ?_
   rintro e w139 ⟨rfl, hb⟩
   refine ⟨_, rfl, ?_⟩
   replace BK428 := bA (bB BK428 hb)
   replace BK429 := bA (bB BK429 hb)
   replace BK430 := bA (bB BK430 hb)
   replace BK431 := bA (bB BK431 hb)
   replace HB := bA (bS hb)
   (try clear hb)
   refine hK.out _ _ ⟨bq BK428 0, bq BK428 1, bq BK429 0, bq BK429 1, bq BK430 0, bq BK430 1, bq BK431 0, bq BK431 1⟩ (fun hHeld => ?_)
   clear hK K
   refine bI 63 ?_
   refine one_ (i := 18) (N := some 67) #[true,true,true,true,true,true,true,true,true,true,true,true,true,true,true,true,true,true,true,false,false,false,false] rfl rfl (one_of HT_.out (by kernel_rfl)) (by decide) (fun K hK => ?_)
   refine goes_ Try.func75 (by kernel_rfl) rfl #[.agg #[.int .i64 a2_0, .int .i64 a2_1], .agg #[.int .i64 a3_0, .int .i64 a3_1], .agg #[.int .i64 a1_0, .int .i64 a1_1]] (by rfl) rfl rfl (by (try simp only [List.map_toArray, List.map_cons, List.map_nil]); first | done | rfl | (simp only [List.length_drop, List.length_take]; rfl)) ?_
   with_reducible refine (apogeeref10_Turn.calls kj57 a2_0 a2_1 a3_0 a3_1 a1_0 a1_1 t443 _ A135.out).mono ?_
   rintro e w140 ⟨rfl, hb⟩
   refine ⟨_, rfl, ?_⟩
   replace BK428 := bA (bB BK428 hb)
   replace BK429 := bA (bB BK429 hb)
   replace BK430 := bA (bB BK430 hb)
   replace BK431 := bA (bB BK431 hb)
   replace HB := bA (bS hb)
   (try clear hb)
   refine hK.out _ _ ⟨bq BK428 0, bq BK428 1, bq BK429 0, bq BK429 1, bq BK430 0, bq BK430 1, bq BK431 0, bq BK431 1⟩ (fun hHeld => ?_)
   clear hK K
   refine bI 67 ?_
   refine bU (i := 19) (N := some 68) ?_
   refine bU (i := 20) (N := some 69) ?_
   refine bU (i := 21) (N := some 70) ?_
   refine bU (i := 22) (N := some 8) ?_
   refine done_ (done_of HT_.out (by kernel_rfl)) ?_
   try go_wp2
   go_ret
   exact bF
end Go.Proofs.Ytjmibjmlihmglaa.G
