-- Written by a program of this session out of the translation; Lean checks it.
import Derived.Test.YtfeekdoakoabeaaGx0
import Derived.Test.YtfeekdoakoabeaaGx16
import Derived.Test.YtfeekdoakoabeaaGx22
import Derived.Test.YtfeekdoakoabeaaGx23
namespace Go.Proofs.Ytfeekdoakoabeaa.G
open Go.RowKit Go.Proofs.YtfeekdoakoabeaaW.PrintWords Go.Proofs.YtfeekdoakoabeaaW.PrintLast Go.Proofs.YtfeekdoakoabeaaW.PrintMore
attribute [local go_sem] max2_int min2_int max_two min_two max_three min_three max_four min_four   -- for this text's walks alone
set_option linter.unusedVariables false
set_option linter.unusedSimpArgs false

/-! ### apogeelaw19_VerdictTruth: function 4 -/
mutual
def apogeelaw19_VerdictTruth.j0 : Nat → Int → Bool → Int → Int → Int → Int → Int → Int → Int → Int → List (S28) → Int → Int → Int → Int → Int → Int → Int → Int → Int → Int → Option (Bool)
 | 0, _, _, _, _, _, _, _, _, _, _, _, _, _, _, _, _, _, _, _, _, _ => none
 | k + 1, x2, x24, x511000, x511001, x511002, x511003, x511004, x511005, x511006, x511007, x512000, x512001, x512002, x512003, x512004, x513000, x513001, x513002, x513003, x513004, x513005 => if x24 = true then ((apogeelaw19_awake.f k).bind fun t515 => (some t515)) else ((apogeelaw18_Held.f x511000 x511001 x511002 x511003 x511004 x511005 x511006 x511007).bind fun bt516 => ((apogeelaw18_Off.f bt516.1 bt516.2.1 bt516.2.2.1 bt516.2.2.2.1 bt516.2.2.2.2.1 bt516.2.2.2.2.2.1 bt516.2.2.2.2.2.2.1 bt516.2.2.2.2.2.2.2 x513000 x513001 x513002 x513003 x513004 x513005 (Go.bits .and .i64 x2 1023)).bind fun bt524 => ((verdict_Of.f k bt516.1 bt516.2.1 bt516.2.2.1 bt516.2.2.2.1 bt516.2.2.2.2.1 bt516.2.2.2.2.2.1 bt516.2.2.2.2.2.2.1 bt516.2.2.2.2.2.2.2 x512000 x512001 x512002 x512003 x512004 0).bind fun t533 => ((verdict_Of.f k bt524.1 bt524.2.1 bt524.2.2.1 bt524.2.2.2.1 bt524.2.2.2.2.1 bt524.2.2.2.2.2.1 bt524.2.2.2.2.2.2.1 bt524.2.2.2.2.2.2.2 x512000 x512001 x512002 x512003 x512004 (Go.bits .and .i64 x2 1023)).bind fun t534 => (apogeelaw19_VerdictTruth.j1 k t533 t534)))))
def apogeelaw19_VerdictTruth.j1 : Nat → Int → Int → Option (Bool)
 | 0, _, _ => none
 | k + 1, x10, x11 => if x10 = 1 then (if x11 = 3 then (none) else (if x10 = 3 then (some (!(x11 == 1))) else (some (!false)))) else (if x10 = 3 then (some (!(x11 == 1))) else (some (!false)))
end
def apogeelaw19_VerdictTruth.f (k : Nat) (a0_0 : Int) (a0_1 : Int) (a0_2 : Int) (a0_3 : Int) (a0_4 : Int) (a0_5 : Int) (a0_6 : Int) (a0_7 : Int) (l1_0 : List (S28)) (a1_1 : Int) (a1_2 : Int) (a1_3 : Int) (a1_4 : Int) (a2 : Int) (a3_0 : Int) (a3_1 : Int) (a3_2 : Int) (a3_3 : Int) (a3_4 : Int) (a3_5 : Int) : Option (Bool) := (apogeelaw19_awake.f k).bind fun t513 => (if t513 = true then (if (l1_0.length : Int) > 12 then (apogeelaw19_VerdictTruth.j0 k a2 true a0_0 a0_1 a0_2 a0_3 a0_4 a0_5 a0_6 a0_7 l1_0 a1_1 a1_2 a1_3 a1_4 a3_0 a3_1 a3_2 a3_3 a3_4 a3_5) else ((apogeeref13_RightPhase.f k l1_0 a1_1 a1_2 a1_3 a1_4).bind fun t514 => (apogeelaw19_VerdictTruth.j0 k a2 (!t514) a0_0 a0_1 a0_2 a0_3 a0_4 a0_5 a0_6 a0_7 l1_0 a1_1 a1_2 a1_3 a1_4 a3_0 a3_1 a3_2 a3_3 a3_4 a3_5))) else (apogeelaw19_VerdictTruth.j0 k a2 true a0_0 a0_1 a0_2 a0_3 a0_4 a0_5 a0_6 a0_7 l1_0 a1_1 a1_2 a1_3 a1_4 a3_0 a3_1 a3_2 a3_3 a3_4 a3_5))
theorem apogeelaw19_VerdictTruth.mono_l : ∀ k, (∀ y0 y1 y2 y3 y4 y5 y6 y7 y8 y9 y10 y11 y12 y13 y14 y15 y16 y17 y18 y19 y20, LeO (apogeelaw19_VerdictTruth.j0 k y0 y1 y2 y3 y4 y5 y6 y7 y8 y9 y10 y11 y12 y13 y14 y15 y16 y17 y18 y19 y20) (apogeelaw19_VerdictTruth.j0 (k + 1) y0 y1 y2 y3 y4 y5 y6 y7 y8 y9 y10 y11 y12 y13 y14 y15 y16 y17 y18 y19 y20)) ∧ (∀ y0 y1, LeO (apogeelaw19_VerdictTruth.j1 k y0 y1) (apogeelaw19_VerdictTruth.j1 (k + 1) y0 y1))
 | 0 => ⟨fun _ _ _ _ _ _ _ _ _ _ _ _ _ _ _ _ _ _ _ _ _ r h => by simp [apogeelaw19_VerdictTruth.j0] at h, fun _ _ r h => by simp [apogeelaw19_VerdictTruth.j1] at h⟩
 | k + 1 => by
  obtain ⟨ih0, ih1⟩ := apogeelaw19_VerdictTruth.mono_l k
  refine ⟨?_, ?_⟩
  ·intro y0 y1 y2 y3 y4 y5 y6 y7 y8 y9 y10 y11 y12 y13 y14 y15 y16 y17 y18 y19 y20
   unfold apogeelaw19_VerdictTruth.j0
   have m0_ := @apogeelaw19_awake.mono
   have m1_ := @apogeeref13_RightPhase.mono
   have m2_ := @verdict_Of.mono
   exact bMo
  ·intro y0 y1
   unfold apogeelaw19_VerdictTruth.j1
   have m0_ := @apogeelaw19_awake.mono
   have m1_ := @apogeeref13_RightPhase.mono
   have m2_ := @verdict_Of.mono
   exact bMo
theorem apogeelaw19_VerdictTruth.mono : ∀ a0 a1 a2 a3 a4 a5 a6 a7 a8 a9 a10 a11 a12 a13 a14 a15 a16 a17 a18 a19 k, LeO (apogeelaw19_VerdictTruth.f k a0 a1 a2 a3 a4 a5 a6 a7 a8 a9 a10 a11 a12 a13 a14 a15 a16 a17 a18 a19) (apogeelaw19_VerdictTruth.f (k + 1) a0 a1 a2 a3 a4 a5 a6 a7 a8 a9 a10 a11 a12 a13 a14 a15 a16 a17 a18 a19) := by
 intro a0 a1 a2 a3 a4 a5 a6 a7 a8 a9 a10 a11 a12 a13 a14 a15 a16 a17 a18 a19 k
 obtain ⟨ih0, ih1⟩ := apogeelaw19_VerdictTruth.mono_l k
 unfold apogeelaw19_VerdictTruth.f
 have m0_ := @apogeelaw19_awake.mono
 have m1_ := @apogeeref13_RightPhase.mono
 have m2_ := @verdict_Of.mono
 exact bMo
def apogeelaw19_VerdictTruth.T5 : Bool × List (List Nat × List Nat) := (true, [([], []), ([], []), ([0, 1], [0, 1]), ([], []), ([], []), ([], []), ([3, 4, 5, 2], [3, 4, 5]), ([2, 6, 0, 1, 2], [2]), ([6, 7, 0, 1, 2, 3, 4, 5, 6, 7], [6])])
def apogeelaw19_VerdictTruth.B5 : List Nat := [0, 0, 3, 0, 0, 0, 63, 127, 255]
theorem apogeelaw19_VerdictTruth.tab5 : rtab .any (opsOf Try.f4 5) = apogeelaw19_VerdictTruth.T5 := by kernel_rfl
theorem apogeelaw19_VerdictTruth.bits5 : waitsOk apogeelaw19_VerdictTruth.T5.2 apogeelaw19_VerdictTruth.B5 = true := by kernel_rfl
set_option maxHeartbeats 8000000 in
set_option maxRecDepth 100000 in
theorem apogeelaw19_VerdictTruth.calls (k : Nat) (a0_0 : Int) (a0_1 : Int) (a0_2 : Int) (a0_3 : Int) (a0_4 : Int) (a0_5 : Int) (a0_6 : Int) (a0_7 : Int) (A1_0 : Option Addr) (c1_0 : Nat) (l1_0 : List (S28)) (a1_1 : Int) (a1_2 : Int) (a1_3 : Int) (a1_4 : Int) (a2 : Int) (a3_0 : Int) (a3_1 : Int) (a3_2 : Int) (a3_3 : Int) (a3_4 : Int) (a3_5 : Int) (r : Bool) (w : World) (hr1_0 : Kd.C k28 w A1_0 l1_0.length l1_0) (hc1_0 : l1_0.length ≤ c1_0) (h : apogeelaw19_VerdictTruth.f k a0_0 a0_1 a0_2 a0_3 a0_4 a0_5 a0_6 a0_7 l1_0 a1_1 a1_2 a1_3 a1_4 a2 a3_0 a3_1 a3_2 a3_3 a3_4 a3_5 = some r) :
  Calls Try.prog 4 #[.agg #[.int .i64 a0_0, .int .i64 a0_1, .int .i64 a0_2, .int .i64 a0_3, .int .i64 a0_4, .int .i64 a0_5, .int .i64 a0_6, .int .i64 a0_7], .agg #[.slice A1_0 l1_0.length c1_0, .int .i64 a1_1, .int .i64 a1_2, .int .i64 a1_3, .int .i64 a1_4], .int .i64 a2, .agg #[.int .i64 a3_0, .int .i64 a3_1, .int .i64 a3_2, .int .i64 a3_3, .int .i64 a3_4, .int .i64 a3_5]] w fun e w' => e = .returned (.bool r) ∧ Below w.heap.size w w' := by
 have hu23 := Try.underlying23
 have hu42 := Try.underlying42
 have hu24 := Try.underlying24
 have HR1_0 := bA hr1_0
 have HC1_0 := bA hc1_0
 clear hr1_0 hc1_0
 have HB := bA (Below.refl w.heap.size w)
 have H : ((apogeelaw19_awake.f k).bind fun t513 => (if t513 = true then (if (l1_0.length : Int) > 12 then (apogeelaw19_VerdictTruth.j0 k a2 true a0_0 a0_1 a0_2 a0_3 a0_4 a0_5 a0_6 a0_7 l1_0 a1_1 a1_2 a1_3 a1_4 a3_0 a3_1 a3_2 a3_3 a3_4 a3_5) else ((apogeeref13_RightPhase.f k l1_0 a1_1 a1_2 a1_3 a1_4).bind fun t514 => (apogeelaw19_VerdictTruth.j0 k a2 (!t514) a0_0 a0_1 a0_2 a0_3 a0_4 a0_5 a0_6 a0_7 l1_0 a1_1 a1_2 a1_3 a1_4 a3_0 a3_1 a3_2 a3_3 a3_4 a3_5))) else (apogeelaw19_VerdictTruth.j0 k a2 true a0_0 a0_1 a0_2 a0_3 a0_4 a0_5 a0_6 a0_7 l1_0 a1_1 a1_2 a1_3 a1_4 a3_0 a3_1 a3_2 a3_3 a3_4 a3_5))) = some r := h
 clear h
 have HC5 := bA H
 clear H
 go_enter Try.func4, Try.ntmps4
 go_upto_region 1 with (first | ((with_reducible refine gate_dst (N := 4) rfl ?_); (try (refine gate_guard (by rfl) ?_; dsimp only)); refine bE (N := 4) (cs := #[.int .i64 a0_0, .int .i64 a0_1, .int .i64 a0_2, .int .i64 a0_3, .int .i64 a0_4, .int .i64 a0_5, .int .i64 a0_6, .int .i64 a0_7]) (t := 23) ?_; intro gb510 hg w6 hbox hb; have n0_ := bA (bS hb); have n1_ := bA (hbox); have n2_ := bA (bZ hg); have n3_ := bA (bZ hg); clear HB; have HB := n0_; have BK510 := n1_; have GW510 := n2_; have GE510 := n3_; clear n0_ n1_ n2_ n3_; clear hb hbox hg) | ((with_reducible refine gate_dst (N := 5) rfl ?_); (try (refine gate_guard (by rfl) ?_; dsimp only)); refine bE (N := 5) (cs := #[.slice A1_0 l1_0.length c1_0, .int .i64 a1_1, .int .i64 a1_2, .int .i64 a1_3, .int .i64 a1_4]) (t := 42) ?_; intro gb511 hg w7 hbox hb; have n0_ := bA (bB BK510 hb); have n1_ := bA (bS hb); have n2_ := bA (hbox); have n3_ := bA (bZ hg); have n4_ := bA (bZ hg); have n5_ := bA (bL BK510 hg); have n6_ := bA (bG BK510 hg); clear BK510; clear HB; have BK510 := n0_; have HB := n1_; have BK511 := n2_; have GW511 := n3_; have GE511 := n4_; have NB510_511 := n5_; have NB511_510 := n6_; clear n0_ n1_ n2_ n3_ n4_ n5_ n6_; clear hb hbox hg) | ((with_reducible refine gate_dst (N := 7) rfl ?_); (try (refine gate_guard (by rfl) ?_; dsimp only)); refine bE (N := 7) (cs := #[.int .i64 a3_0, .int .i64 a3_1, .int .i64 a3_2, .int .i64 a3_3, .int .i64 a3_4, .int .i64 a3_5]) (t := 24) ?_; intro gb512 hg w8 hbox hb; have n0_ := bA (bB BK510 hb); have n1_ := bA (bB BK511 hb); have n2_ := bA (bS hb); have n3_ := bA (hbox); have n4_ := bA (bZ hg); have n5_ := bA (bZ hg); have n6_ := bA (bL BK510 hg); have n7_ := bA (bG BK510 hg); have n8_ := bA (bL BK511 hg); have n9_ := bA (bG BK511 hg); clear BK510; clear BK511; clear HB; have BK510 := n0_; have BK511 := n1_; have HB := n2_; have BK512 := n3_; have GW512 := n4_; have GE512 := n5_; have NB510_512 := n6_; have NB512_510 := n7_; have NB511_512 := n8_; have NB512_511 := n9_; clear n0_ n1_ n2_ n3_ n4_ n5_ n6_ n7_ n8_ n9_; clear hb hbox hg))
 (try simp only [Act.put, List.setIfInBounds_toArray, List.set_cons_zero, List.set_cons_succ])
 go_cut [24] (fun v24 wc => ∃ (kq : Nat) (x24_4 : Bool), v24 = .bool x24_4 ∧ Aside0 (apogeelaw19_VerdictTruth.j0 kq a2 x24_4 a0_0 a0_1 a0_2 a0_3 a0_4 a0_5 a0_6 a0_7 l1_0 a1_1 a1_2 a1_3 a1_4 a3_0 a3_1 a3_2 a3_3 a3_4 a3_5 = some r) ∧ Aside0 (kq ≤ k) ∧ Aside0 (wc.heap[gb510]? = some (.cells #[.int .i64 a0_0, .int .i64 a0_1, .int .i64 a0_2, .int .i64 a0_3, .int .i64 a0_4, .int .i64 a0_5, .int .i64 a0_6, .int .i64 a0_7] 23 (0, 0))) ∧ Aside0 (wc.heap[gb511]? = some (.cells #[(.slice A1_0 l1_0.length c1_0), .int .i64 a1_1, .int .i64 a1_2, .int .i64 a1_3, .int .i64 a1_4] 42 (0, 0))) ∧ Aside0 (wc.heap[gb512]? = some (.cells #[.int .i64 a3_0, .int .i64 a3_1, .int .i64 a3_2, .int .i64 a3_3, .int .i64 a3_4, .int .i64 a3_5] 24 (0, 0))) ∧ Aside0 (Below w.heap.size w wc))
 case first =>
  have H := HC5.out
  clear HC5
  replace H := Option.bind_eq_some_iff.mp H
  obtain ⟨t513, A90, H⟩ := H
  have A9 := bA A90
  clear A90
  by_cases c10 : t513 = true
  subst c10
  rw [if_pos rfl] at H
  by_cases c11 : (l1_0.length : Int) > 12
  rw [if_pos c11] at H
  have c11b0 : decide (12 < (l1_0.length : Int)) = true := decide_eq_true c11
  have c11b1 : decide (12 < l1_0.length) = true := decide_eq_true (by omega)
  clear c11
  (first | rw [c11b0] | (simp only [i64_w, i32_w]; rw [c11b0]) | skip)
  have H' := bA H
  clear H
  rotate_left
  rw [if_neg c11] at H
  have c11b0 : decide (12 < (l1_0.length : Int)) = false := decide_eq_false c11
  have c11b1 : decide (12 < l1_0.length) = false := decide_eq_false (by omega)
  clear c11
  (first | rw [c11b0] | (simp only [i64_w, i32_w]; rw [c11b0]) | skip)
  replace H := Option.bind_eq_some_iff.mp H
  obtain ⟨t514, A160, H⟩ := H
  have A16 := bA A160
  clear A160
  have H' := bA H
  clear H
  rotate_left
  replace c10 := Bool.eq_false_iff.mpr c10
  subst c10
  rw [if_neg bn] at H
  have H' := bA H
  clear H
  rotate_left
  all_goals go_wp2_with (first | ((first | ((with_reducible refine gate_callee (f := 14) rfl ?_); refine bC (some 12) Try.func14 #[] ?_) | go_at_call 14); (with_reducible refine (apogeelaw19_awake.calls k  true _ A9.out).mono ?_); rintro e wz0 ⟨rfl, hb⟩; (first | refine ⟨_, rfl, ?_⟩ | skip); replace BK510 := bA (bB BK510 hb); replace BK511 := bA (bB BK511 hb); replace BK512 := bA (bB BK512 hb); replace HB := bA (bS hb); (try clear hb); have hz1 := NB511_510.out; have hz2 := NB510_511.out; have hz3 := NB511_512.out; have hz4 := NB512_511.out; obtain ⟨hz5, hz6, hz7, hz8, hz9, hz10, hz11, hz12, hz13, hz14⟩ := bc5 BK511) | (go_at_call 15; (with_reducible refine (apogeeref13_RightPhase.calls k _ _ l1_0 a1_1 a1_2 a1_3 a1_4 t514 _ ?side1 ?side2 A16.out).mono ?_); (case side1 => exact bQ HR1_0); (case side2 => exact HC1_0.out); rintro e wz1 ⟨rfl, hb⟩; replace BK510 := bA (bB BK510 hb); replace BK511 := bA (bB BK511 hb); replace BK512 := bA (bB BK512 hb); replace HB := bA (bS hb); (try clear hb)) | ((first | ((with_reducible refine gate_callee (f := 14) rfl ?_); refine bC (some 12) Try.func14 #[] ?_) | go_at_call 14); (with_reducible refine (apogeelaw19_awake.calls k  false _ A9.out).mono ?_); rintro e wz0 ⟨rfl, hb⟩; (first | refine ⟨_, rfl, ?_⟩ | skip); replace BK510 := bA (bB BK510 hb); replace BK511 := bA (bB BK511 hb); replace BK512 := bA (bB BK512 hb); replace HB := bA (bS hb); (try clear hb)))
  ·go_meet
   case rel => exact ⟨_, (true), bs, H', ⟨by first | omega | exact Nat.le_refl _⟩, ⟨by (with_reducible repeat (first | refine blk_drewN ?_ _ | refine blk_drew ?_ | refine blk_alloc ?_ _)); exact BK510.out⟩, ⟨by (with_reducible repeat (first | refine blk_drewN ?_ _ | refine blk_drew ?_ | refine blk_alloc ?_ _)); exact BK511.out⟩, ⟨by (with_reducible repeat (first | refine blk_drewN ?_ _ | refine blk_drew ?_ | refine blk_alloc ?_ _)); exact BK512.out⟩, ⟨bX⟩⟩
  ·go_meet
   case rel => exact ⟨_, (!t514), bs, H', ⟨by first | omega | exact Nat.le_refl _⟩, ⟨by (with_reducible repeat (first | refine blk_drewN ?_ _ | refine blk_drew ?_ | refine blk_alloc ?_ _)); exact BK510.out⟩, ⟨by (with_reducible repeat (first | refine blk_drewN ?_ _ | refine blk_drew ?_ | refine blk_alloc ?_ _)); exact BK511.out⟩, ⟨by (with_reducible repeat (first | refine blk_drewN ?_ _ | refine blk_drew ?_ | refine blk_alloc ?_ _)); exact BK512.out⟩, ⟨bX⟩⟩
  go_meet
  case rel => exact ⟨_, (true), bs, H', ⟨by first | omega | exact Nat.le_refl _⟩, ⟨by (with_reducible repeat (first | refine blk_drewN ?_ _ | refine blk_drew ?_ | refine blk_alloc ?_ _)); exact BK510.out⟩, ⟨by (with_reducible repeat (first | refine blk_drewN ?_ _ | refine blk_drew ?_ | refine blk_alloc ?_ _)); exact BK511.out⟩, ⟨by (with_reducible repeat (first | refine blk_drewN ?_ _ | refine blk_drew ?_ | refine blk_alloc ?_ _)); exact BK512.out⟩, ⟨bX⟩⟩
 clear HC5
 try clear c1
 try clear p2
 try clear c4
 try clear c10
 try clear c11
 try clear c11b0
 try clear c11b1
 try clear c13
 try clear c14
 try clear c18
 try clear c19
 try clear hcz15_0
 try clear hcz15_1
 try clear hcz15_2
 try clear hcz15_3
 try clear hcz15_4
 try clear hcz20_0
 try clear hcz20_1
 try clear hcz20_2
 try clear hcz20_3
 try clear hcz20_4
 try clear hfz15_0
 try clear hfz15_1
 try clear hfz15_2
 try clear hfz15_3
 try clear hfz15_4
 try clear hfz20_0
 try clear hfz20_1
 try clear hfz20_2
 try clear hfz20_3
 try clear hfz20_4
 obtain ⟨kq, x24_4, rfl, HA, HJ4, BK510, BK511, BK512, HB⟩ := hcut
 cases kq with
 | zero => exact absurd HA.out (by simp [apogeelaw19_VerdictTruth.j0])
 | succ kj4 =>
  have H := HA.out
  clear HA
  simp only [apogeelaw19_VerdictTruth.j0] at H
  by_cases c23 : x24_4 = true
  ·subst c23
   rw [if_pos rfl] at H
   replace H := Option.bind_eq_some_iff.mp H
   obtain ⟨t515, A240, H⟩ := H
   have A24 := bA A240
   clear A240
   obtain rfl := Option.some.inj H
   go_wp2_with (first | ((first | ((with_reducible refine gate_callee (f := 14) rfl ?_); refine bC (some 25) Try.func14 #[] ?_) | go_at_call 14); (with_reducible refine (apogeelaw19_awake.calls kj4  t515 _ A24.out).mono ?_); rintro e w25 ⟨rfl, hb⟩; (first | refine ⟨_, rfl, ?_⟩ | skip); replace BK510 := bA (bB BK510 hb); replace BK511 := bA (bB BK511 hb); replace BK512 := bA (bB BK512 hb); replace HB := bA (bS hb); (try clear hb)))
   go_ret
   exact bF
  replace c23 := Bool.eq_false_iff.mpr c23
  subst c23
  rw [if_neg bn] at H
  replace H := Option.bind_eq_some_iff.mp H
  obtain ⟨⟨t516, t517, t518, t519, t520, t521, t522, t523⟩, A260, H⟩ := H
  replace H : ((apogeelaw18_Off.f t516 t517 t518 t519 t520 t521 t522 t523 a3_0 a3_1 a3_2 a3_3 a3_4 a3_5 (Go.bits .and .i64 a2 1023)).bind fun bt524 => ((verdict_Of.f kj4 t516 t517 t518 t519 t520 t521 t522 t523 l1_0 a1_1 a1_2 a1_3 a1_4 0).bind fun t533 => ((verdict_Of.f kj4 bt524.1 bt524.2.1 bt524.2.2.1 bt524.2.2.2.1 bt524.2.2.2.2.1 bt524.2.2.2.2.2.1 bt524.2.2.2.2.2.2.1 bt524.2.2.2.2.2.2.2 l1_0 a1_1 a1_2 a1_3 a1_4 (Go.bits .and .i64 a2 1023)).bind fun t534 => (apogeelaw19_VerdictTruth.j1 kj4 t533 t534)))) = some r := H
  have A26 := bA A260
  clear A260
  replace H := Option.bind_eq_some_iff.mp H
  obtain ⟨⟨t524, t525, t526, t527, t528, t529, t530, t531⟩, A270, H⟩ := H
  replace H : ((verdict_Of.f kj4 t516 t517 t518 t519 t520 t521 t522 t523 l1_0 a1_1 a1_2 a1_3 a1_4 0).bind fun t533 => ((verdict_Of.f kj4 t524 t525 t526 t527 t528 t529 t530 t531 l1_0 a1_1 a1_2 a1_3 a1_4 (Go.bits .and .i64 a2 1023)).bind fun t534 => (apogeelaw19_VerdictTruth.j1 kj4 t533 t534))) = some r := H
  have A27 := bA A270
  clear A270
  have HC28 := bA H
  clear H
  have hnb29 := NB510_511.out
  have hnc29 := NB511_510.out
  have hnb30 := NB510_512.out
  have hnc30 := NB512_510.out
  obtain ⟨hcz31_0, hcz31_1, hcz31_2, hcz31_3, hcz31_4, hcz31_5, hcz31_6, hcz31_7, hfz31_0, hfz31_1, hfz31_2, hfz31_3, hfz31_4, hfz31_5, hfz31_6, hfz31_7⟩ := bc8 BK510
  go_upto_region 5 with (first | ((first | ((with_reducible refine gate_callee (f := 6) rfl ?_); refine bC (some 27) Try.func6 #[.agg #[.int .i64 a0_0, .int .i64 a0_1, .int .i64 a0_2, .int .i64 a0_3, .int .i64 a0_4, .int .i64 a0_5, .int .i64 a0_6, .int .i64 a0_7]] ?_) | go_at_call 6); (with_reducible refine (apogeelaw18_Held.calls a0_0 a0_1 a0_2 a0_3 a0_4 a0_5 a0_6 a0_7 t516 t517 t518 t519 t520 t521 t522 t523 _ A26.out).mono ?_); rintro e w32 ⟨rfl, hb⟩; (first | refine ⟨_, rfl, ?_⟩ | skip); have n0_ := bA (bB BK510 hb); have n1_ := bA (bB BK511 hb); have n2_ := bA (bB BK512 hb); have n3_ := bA (bS hb); clear BK510; clear BK511; clear BK512; clear HB; have BK510 := n0_; have BK511 := n1_; have BK512 := n2_; have HB := n3_; clear n0_ n1_ n2_ n3_; (try clear hb); obtain ⟨hcz33_0, hcz33_1, hcz33_2, hcz33_3, hcz33_4, hcz33_5, hcz33_6, hcz33_7, hfz33_0, hfz33_1, hfz33_2, hfz33_3, hfz33_4, hfz33_5, hfz33_6, hfz33_7⟩ := bc8 BK510; have hnb34 := NB512_511.out; have hnc34 := NB511_512.out; obtain ⟨hcz35_0, hcz35_1, hcz35_2, hcz35_3, hcz35_4, hcz35_5, hfz35_0, hfz35_1, hfz35_2, hfz35_3, hfz35_4, hfz35_5⟩ := bc6 BK512) | ((first | ((with_reducible refine gate_callee (f := 9) rfl ?_); refine bC (some 33) Try.func9 #[.agg #[.int .i64 t516, .int .i64 t517, .int .i64 t518, .int .i64 t519, .int .i64 t520, .int .i64 t521, .int .i64 t522, .int .i64 t523], .agg #[.int .i64 a3_0, .int .i64 a3_1, .int .i64 a3_2, .int .i64 a3_3, .int .i64 a3_4, .int .i64 a3_5], .int .i64 (Go.bits .and .i64 a2 1023)] ?_) | go_at_call 9); (with_reducible refine (apogeelaw18_Off.calls t516 t517 t518 t519 t520 t521 t522 t523 a3_0 a3_1 a3_2 a3_3 a3_4 a3_5 (Go.bits .and .i64 a2 1023) t524 t525 t526 t527 t528 t529 t530 t531 _ A27.out).mono ?_); rintro e w36 ⟨rfl, hb⟩; (first | refine ⟨_, rfl, ?_⟩ | skip); have n0_ := bA (blk_below (g := gb510) (o := .cells #[.int .i64 t516, .int .i64 t517, .int .i64 t518, .int .i64 t519, .int .i64 t520, .int .i64 t521, .int .i64 t522, .int .i64 t523] 23 (0, 0)) (by (with_reducible repeat (first | refine blk_drewN ?_ _ | refine blk_drew ?_ | refine blk_alloc ?_ _)); refine blk_put (cs := #[.int .i64 t516, .int .i64 t517, .int .i64 t518, .int .i64 t519, .int .i64 t520, .int .i64 t521, .int .i64 t522, .int .i64 a0_7]) ?_ 7 _ rfl; (with_reducible repeat (first | refine blk_drewN ?_ _ | refine blk_drew ?_ | refine blk_alloc ?_ _)); refine blk_put (cs := #[.int .i64 t516, .int .i64 t517, .int .i64 t518, .int .i64 t519, .int .i64 t520, .int .i64 t521, .int .i64 a0_6, .int .i64 a0_7]) ?_ 6 _ rfl; (with_reducible repeat (first | refine blk_drewN ?_ _ | refine blk_drew ?_ | refine blk_alloc ?_ _)); refine blk_put (cs := #[.int .i64 t516, .int .i64 t517, .int .i64 t518, .int .i64 t519, .int .i64 t520, .int .i64 a0_5, .int .i64 a0_6, .int .i64 a0_7]) ?_ 5 _ rfl; (with_reducible repeat (first | refine blk_drewN ?_ _ | refine blk_drew ?_ | refine blk_alloc ?_ _)); refine blk_put (cs := #[.int .i64 t516, .int .i64 t517, .int .i64 t518, .int .i64 t519, .int .i64 a0_4, .int .i64 a0_5, .int .i64 a0_6, .int .i64 a0_7]) ?_ 4 _ rfl; (with_reducible repeat (first | refine blk_drewN ?_ _ | refine blk_drew ?_ | refine blk_alloc ?_ _)); refine blk_put (cs := #[.int .i64 t516, .int .i64 t517, .int .i64 t518, .int .i64 a0_3, .int .i64 a0_4, .int .i64 a0_5, .int .i64 a0_6, .int .i64 a0_7]) ?_ 3 _ rfl; (with_reducible repeat (first | refine blk_drewN ?_ _ | refine blk_drew ?_ | refine blk_alloc ?_ _)); refine blk_put (cs := #[.int .i64 t516, .int .i64 t517, .int .i64 a0_2, .int .i64 a0_3, .int .i64 a0_4, .int .i64 a0_5, .int .i64 a0_6, .int .i64 a0_7]) ?_ 2 _ rfl; (with_reducible repeat (first | refine blk_drewN ?_ _ | refine blk_drew ?_ | refine blk_alloc ?_ _)); refine blk_put (cs := #[.int .i64 t516, .int .i64 a0_1, .int .i64 a0_2, .int .i64 a0_3, .int .i64 a0_4, .int .i64 a0_5, .int .i64 a0_6, .int .i64 a0_7]) ?_ 1 _ rfl; (with_reducible repeat (first | refine blk_drewN ?_ _ | refine blk_drew ?_ | refine blk_alloc ?_ _)); refine blk_put (cs := #[.int .i64 a0_0, .int .i64 a0_1, .int .i64 a0_2, .int .i64 a0_3, .int .i64 a0_4, .int .i64 a0_5, .int .i64 a0_6, .int .i64 a0_7]) ?_ 0 _ rfl; (with_reducible repeat (first | refine blk_drewN ?_ _ | refine blk_drew ?_ | refine blk_alloc ?_ _)); exact BK510.out) hb); have n1_ := bA (blk_below (g := gb511) (o := .cells #[.slice A1_0 l1_0.length c1_0, .int .i64 a1_1, .int .i64 a1_2, .int .i64 a1_3, .int .i64 a1_4] 42 (0, 0)) (by (repeat ((with_reducible repeat (first | refine blk_drewN ?_ _ | refine blk_drew ?_ | refine blk_alloc ?_ _)); refine blk_far ?_ NB511_510.out _)); (with_reducible repeat (first | refine blk_drewN ?_ _ | refine blk_drew ?_ | refine blk_alloc ?_ _)); exact BK511.out) hb); have n2_ := bA (blk_below (g := gb512) (o := .cells #[.int .i64 a3_0, .int .i64 a3_1, .int .i64 a3_2, .int .i64 a3_3, .int .i64 a3_4, .int .i64 a3_5] 24 (0, 0)) (by (repeat ((with_reducible repeat (first | refine blk_drewN ?_ _ | refine blk_drew ?_ | refine blk_alloc ?_ _)); refine blk_far ?_ NB512_510.out _)); (with_reducible repeat (first | refine blk_drewN ?_ _ | refine blk_drew ?_ | refine blk_alloc ?_ _)); exact BK512.out) hb); have n3_ := bA (bS hb); clear BK510; clear BK511; clear BK512; clear HB; have BK510 := n0_; have BK511 := n1_; have BK512 := n2_; have HB := n3_; clear n0_ n1_ n2_ n3_; (try clear hb)) | ((with_reducible refine gate_dst (N := 9) rfl ?_); (try (refine gate_guard (by rfl) ?_; dsimp only)); refine bE (N := 9) (cs := #[.int .i64 0, .int .i64 0, .int .i64 0, .int .i64 0, .int .i64 0, .int .i64 0, .int .i64 0, .int .i64 0]) (t := 23) ?_; intro gb532 hg w37 hbox hb; have n0_ := bA (bB BK510 hb); have n1_ := bA (bB BK511 hb); have n2_ := bA (bB BK512 hb); have n3_ := bA (bS hb); have n4_ := bA (hbox); have n5_ := bA (bZ hg); have n6_ := bA (bZ hg); have n7_ := bA (bL BK510 hg); have n8_ := bA (bG BK510 hg); have n9_ := bA (bL BK511 hg); have n10_ := bA (bG BK511 hg); have n11_ := bA (bL BK512 hg); have n12_ := bA (bG BK512 hg); clear BK510; clear BK511; clear BK512; clear HB; have BK510 := n0_; have BK511 := n1_; have BK512 := n2_; have HB := n3_; have BK532 := n4_; have GW532 := n5_; have GE532 := n6_; have NB510_532 := n7_; have NB532_510 := n8_; have NB511_532 := n9_; have NB532_511 := n10_; have NB512_532 := n11_; have NB532_512 := n12_; clear n0_ n1_ n2_ n3_ n4_ n5_ n6_ n7_ n8_ n9_ n10_ n11_ n12_; clear hb hbox hg; have hnb38 := NB532_510.out; have hnc38 := NB510_532.out; have hnb39 := NB532_511.out; have hnc39 := NB511_532.out; have hnb40 := NB532_512.out; have hnc40 := NB512_532.out; obtain ⟨hcz41_0, hcz41_1, hcz41_2, hcz41_3, hcz41_4, hcz41_5, hcz41_6, hcz41_7, hfz41_0, hfz41_1, hfz41_2, hfz41_3, hfz41_4, hfz41_5, hfz41_6, hfz41_7⟩ := bc8 BK532))
  (try simp only [Act.put, List.setIfInBounds_toArray, List.set_cons_zero, List.set_cons_succ])
  go_cut [10, 11] (fun v10 v11 wc => ∃ (kq : Nat) (x10_27 : Int) (x11_27 : Int), v10 = .int .i64 x10_27 ∧ v11 = .int .i64 x11_27 ∧ Aside0 (apogeelaw19_VerdictTruth.j1 kq x10_27 x11_27 = some r) ∧ Aside0 (kq ≤ kj4) ∧ Aside0 (wc.heap[gb510]? = some (.cells #[.int .i64 t516, .int .i64 t517, .int .i64 t518, .int .i64 t519, .int .i64 t520, .int .i64 t521, .int .i64 t522, .int .i64 t523] 23 (0, 0))) ∧ Aside0 (wc.heap[gb511]? = some (.cells #[(.slice A1_0 l1_0.length c1_0), .int .i64 a1_1, .int .i64 a1_2, .int .i64 a1_3, .int .i64 a1_4] 42 (0, 0))) ∧ Aside0 (wc.heap[gb512]? = some (.cells #[.int .i64 a3_0, .int .i64 a3_1, .int .i64 a3_2, .int .i64 a3_3, .int .i64 a3_4, .int .i64 a3_5] 24 (0, 0))) ∧ Aside0 (wc.heap[gb532]? = some (.cells #[.int .i64 t524, .int .i64 t525, .int .i64 t526, .int .i64 t527, .int .i64 t528, .int .i64 t529, .int .i64 t530, .int .i64 t531] 23 (0, 0))) ∧ Aside0 (Below w.heap.size w wc))
  case first =>
   have H := HC28.out
   clear HC28
   replace H := Option.bind_eq_some_iff.mp H
   obtain ⟨t533, A420, H⟩ := H
   have A42 := bA A420
   clear A420
   replace H := Option.bind_eq_some_iff.mp H
   obtain ⟨t534, A430, H⟩ := H
   have A43 := bA A430
   clear A430
   have H' := bA H
   clear H
   try go_wp2
   have n0_ : Aside0 (((((((((w37.setCell ⟨gb532, 0, none⟩ (.int .i64 t524)).setCell ⟨gb532, 1, none⟩ (.int .i64 t525)).setCell ⟨gb532, 2, none⟩ (.int .i64 t526)).setCell ⟨gb532, 3, none⟩ (.int .i64 t527)).setCell ⟨gb532, 4, none⟩ (.int .i64 t528)).setCell ⟨gb532, 5, none⟩ (.int .i64 t529)).setCell ⟨gb532, 6, none⟩ (.int .i64 t530)).setCell ⟨gb532, 7, none⟩ (.int .i64 t531)).heap[gb510]? = some (.cells #[.int .i64 t516, .int .i64 t517, .int .i64 t518, .int .i64 t519, .int .i64 t520, .int .i64 t521, .int .i64 t522, .int .i64 t523] 23 (0, 0))) := ⟨by (repeat ((with_reducible repeat (first | refine blk_drewN ?_ _ | refine blk_drew ?_ | refine blk_alloc ?_ _)); refine blk_far ?_ NB510_532.out _)); (with_reducible repeat (first | refine blk_drewN ?_ _ | refine blk_drew ?_ | refine blk_alloc ?_ _)); exact BK510.out⟩
   have n1_ : Aside0 (((((((((w37.setCell ⟨gb532, 0, none⟩ (.int .i64 t524)).setCell ⟨gb532, 1, none⟩ (.int .i64 t525)).setCell ⟨gb532, 2, none⟩ (.int .i64 t526)).setCell ⟨gb532, 3, none⟩ (.int .i64 t527)).setCell ⟨gb532, 4, none⟩ (.int .i64 t528)).setCell ⟨gb532, 5, none⟩ (.int .i64 t529)).setCell ⟨gb532, 6, none⟩ (.int .i64 t530)).setCell ⟨gb532, 7, none⟩ (.int .i64 t531)).heap[gb511]? = some (.cells #[.slice A1_0 l1_0.length c1_0, .int .i64 a1_1, .int .i64 a1_2, .int .i64 a1_3, .int .i64 a1_4] 42 (0, 0))) := ⟨by (repeat ((with_reducible repeat (first | refine blk_drewN ?_ _ | refine blk_drew ?_ | refine blk_alloc ?_ _)); refine blk_far ?_ NB511_532.out _)); (with_reducible repeat (first | refine blk_drewN ?_ _ | refine blk_drew ?_ | refine blk_alloc ?_ _)); exact BK511.out⟩
   have n2_ : Aside0 (((((((((w37.setCell ⟨gb532, 0, none⟩ (.int .i64 t524)).setCell ⟨gb532, 1, none⟩ (.int .i64 t525)).setCell ⟨gb532, 2, none⟩ (.int .i64 t526)).setCell ⟨gb532, 3, none⟩ (.int .i64 t527)).setCell ⟨gb532, 4, none⟩ (.int .i64 t528)).setCell ⟨gb532, 5, none⟩ (.int .i64 t529)).setCell ⟨gb532, 6, none⟩ (.int .i64 t530)).setCell ⟨gb532, 7, none⟩ (.int .i64 t531)).heap[gb512]? = some (.cells #[.int .i64 a3_0, .int .i64 a3_1, .int .i64 a3_2, .int .i64 a3_3, .int .i64 a3_4, .int .i64 a3_5] 24 (0, 0))) := ⟨by (repeat ((with_reducible repeat (first | refine blk_drewN ?_ _ | refine blk_drew ?_ | refine blk_alloc ?_ _)); refine blk_far ?_ NB512_532.out _)); (with_reducible repeat (first | refine blk_drewN ?_ _ | refine blk_drew ?_ | refine blk_alloc ?_ _)); exact BK512.out⟩
   have n3_ : Aside0 (((((((((w37.setCell ⟨gb532, 0, none⟩ (.int .i64 t524)).setCell ⟨gb532, 1, none⟩ (.int .i64 t525)).setCell ⟨gb532, 2, none⟩ (.int .i64 t526)).setCell ⟨gb532, 3, none⟩ (.int .i64 t527)).setCell ⟨gb532, 4, none⟩ (.int .i64 t528)).setCell ⟨gb532, 5, none⟩ (.int .i64 t529)).setCell ⟨gb532, 6, none⟩ (.int .i64 t530)).setCell ⟨gb532, 7, none⟩ (.int .i64 t531)).heap[gb532]? = some (.cells #[.int .i64 t524, .int .i64 t525, .int .i64 t526, .int .i64 t527, .int .i64 t528, .int .i64 t529, .int .i64 t530, .int .i64 t531] 23 (0, 0))) := ⟨by (with_reducible repeat (first | refine blk_drewN ?_ _ | refine blk_drew ?_ | refine blk_alloc ?_ _)); refine blk_put (cs := #[.int .i64 t524, .int .i64 t525, .int .i64 t526, .int .i64 t527, .int .i64 t528, .int .i64 t529, .int .i64 t530, .int .i64 0]) ?_ 7 _ rfl; (with_reducible repeat (first | refine blk_drewN ?_ _ | refine blk_drew ?_ | refine blk_alloc ?_ _)); refine blk_put (cs := #[.int .i64 t524, .int .i64 t525, .int .i64 t526, .int .i64 t527, .int .i64 t528, .int .i64 t529, .int .i64 0, .int .i64 0]) ?_ 6 _ rfl; (with_reducible repeat (first | refine blk_drewN ?_ _ | refine blk_drew ?_ | refine blk_alloc ?_ _)); refine blk_put (cs := #[.int .i64 t524, .int .i64 t525, .int .i64 t526, .int .i64 t527, .int .i64 t528, .int .i64 0, .int .i64 0, .int .i64 0]) ?_ 5 _ rfl; (with_reducible repeat (first | refine blk_drewN ?_ _ | refine blk_drew ?_ | refine blk_alloc ?_ _)); refine blk_put (cs := #[.int .i64 t524, .int .i64 t525, .int .i64 t526, .int .i64 t527, .int .i64 0, .int .i64 0, .int .i64 0, .int .i64 0]) ?_ 4 _ rfl; (with_reducible repeat (first | refine blk_drewN ?_ _ | refine blk_drew ?_ | refine blk_alloc ?_ _)); refine blk_put (cs := #[.int .i64 t524, .int .i64 t525, .int .i64 t526, .int .i64 0, .int .i64 0, .int .i64 0, .int .i64 0, .int .i64 0]) ?_ 3 _ rfl; (with_reducible repeat (first | refine blk_drewN ?_ _ | refine blk_drew ?_ | refine blk_alloc ?_ _)); refine blk_put (cs := #[.int .i64 t524, .int .i64 t525, .int .i64 0, .int .i64 0, .int .i64 0, .int .i64 0, .int .i64 0, .int .i64 0]) ?_ 2 _ rfl; (with_reducible repeat (first | refine blk_drewN ?_ _ | refine blk_drew ?_ | refine blk_alloc ?_ _)); refine blk_put (cs := #[.int .i64 t524, .int .i64 0, .int .i64 0, .int .i64 0, .int .i64 0, .int .i64 0, .int .i64 0, .int .i64 0]) ?_ 1 _ rfl; (with_reducible repeat (first | refine blk_drewN ?_ _ | refine blk_drew ?_ | refine blk_alloc ?_ _)); refine blk_put (cs := #[.int .i64 0, .int .i64 0, .int .i64 0, .int .i64 0, .int .i64 0, .int .i64 0, .int .i64 0, .int .i64 0]) ?_ 0 _ rfl; (with_reducible repeat (first | refine blk_drewN ?_ _ | refine blk_drew ?_ | refine blk_alloc ?_ _)); exact BK532.out⟩
   have n4_ : Aside0 (Below w.heap.size w ((((((((w37.setCell ⟨gb532, 0, none⟩ (.int .i64 t524)).setCell ⟨gb532, 1, none⟩ (.int .i64 t525)).setCell ⟨gb532, 2, none⟩ (.int .i64 t526)).setCell ⟨gb532, 3, none⟩ (.int .i64 t527)).setCell ⟨gb532, 4, none⟩ (.int .i64 t528)).setCell ⟨gb532, 5, none⟩ (.int .i64 t529)).setCell ⟨gb532, 6, none⟩ (.int .i64 t530)).setCell ⟨gb532, 7, none⟩ (.int .i64 t531))) := ⟨bX⟩
   (try clear BK510)
   (try clear BK511)
   (try clear BK512)
   (try clear BK532)
   (try clear HB)
   generalize ((((((((w37.setCell ⟨gb532, 0, none⟩ (.int .i64 t524)).setCell ⟨gb532, 1, none⟩ (.int .i64 t525)).setCell ⟨gb532, 2, none⟩ (.int .i64 t526)).setCell ⟨gb532, 3, none⟩ (.int .i64 t527)).setCell ⟨gb532, 4, none⟩ (.int .i64 t528)).setCell ⟨gb532, 5, none⟩ (.int .i64 t529)).setCell ⟨gb532, 6, none⟩ (.int .i64 t530)).setCell ⟨gb532, 7, none⟩ (.int .i64 t531)) = w44 at n0_ n1_ n2_ n3_ n4_ ⊢
   have BK510 := n0_
   have BK511 := n1_
   have BK512 := n2_
   have BK532 := n3_
   have HB := n4_
   clear n0_ n1_ n2_ n3_ n4_
   replace BK510 := bA (blk_drew BK510.out)
   replace BK511 := bA (blk_drew BK511.out)
   replace BK512 := bA (blk_drew BK512.out)
   replace BK532 := bA (blk_drew BK532.out)
   replace HB := bA (below_drew1 HB.out)
   refine start_ (n := 9) (S := fun w' => w'.cell? ⟨gb510, 0, none⟩ = some (.int .i64 t516) ∧ w'.cell? ⟨gb510, 1, none⟩ = some (.int .i64 t517) ∧ w'.cell? ⟨gb510, 2, none⟩ = some (.int .i64 t518) ∧ w'.cell? ⟨gb510, 3, none⟩ = some (.int .i64 t519) ∧ w'.cell? ⟨gb510, 4, none⟩ = some (.int .i64 t520) ∧ w'.cell? ⟨gb510, 5, none⟩ = some (.int .i64 t521) ∧ w'.cell? ⟨gb510, 6, none⟩ = some (.int .i64 t522) ∧ w'.cell? ⟨gb510, 7, none⟩ = some (.int .i64 t523) ∧ w'.cell? ⟨gb511, 0, none⟩ = some (.slice A1_0 l1_0.length c1_0) ∧ w'.cell? ⟨gb511, 1, none⟩ = some (.int .i64 a1_1) ∧ w'.cell? ⟨gb511, 2, none⟩ = some (.int .i64 a1_2) ∧ w'.cell? ⟨gb511, 3, none⟩ = some (.int .i64 a1_3) ∧ w'.cell? ⟨gb511, 4, none⟩ = some (.int .i64 a1_4) ∧ w'.cell? ⟨gb532, 0, none⟩ = some (.int .i64 t524) ∧ w'.cell? ⟨gb532, 1, none⟩ = some (.int .i64 t525) ∧ w'.cell? ⟨gb532, 2, none⟩ = some (.int .i64 t526) ∧ w'.cell? ⟨gb532, 3, none⟩ = some (.int .i64 t527) ∧ w'.cell? ⟨gb532, 4, none⟩ = some (.int .i64 t528) ∧ w'.cell? ⟨gb532, 5, none⟩ = some (.int .i64 t529) ∧ w'.cell? ⟨gb532, 6, none⟩ = some (.int .i64 t530) ∧ w'.cell? ⟨gb532, 7, none⟩ = some (.int .i64 t531)) (ds := []) #[false,false,false,false,false,false,false,false,false] (by kernel_rfl) rfl rfl ⟨bq BK510 0, bq BK510 1, bq BK510 2, bq BK510 3, bq BK510 4, bq BK510 5, bq BK510 6, bq BK510 7, bq BK511 0, bq BK511 1, bq BK511 2, bq BK511 3, bq BK511 4, bq BK532 0, bq BK532 1, bq BK532 2, bq BK532 3, bq BK532 4, bq BK532 5, bq BK532 6, bq BK532 7⟩ (fun hHeld => ?_); refine with_tabW apogeelaw19_VerdictTruth.tab5 apogeelaw19_VerdictTruth.bits5 (fun HT_ HW_ => ?_)
   generalize w44.drew = w45 at BK510 BK511 BK512 BK532 HB hHeld ⊢
   refine bU (i := 5) (N := some 39) ?_
   refine bW (i := 0) (N := some 34) hHeld ?_
   refine bW (i := 1) (N := some 35) hHeld ?_
   refine bW (i := 3) (N := some 37) hHeld ?_
   refine bW (i := 4) (N := some 38) hHeld ?_
   refine one_ (i := 2) (N := some 36) #[true,true,true,true,true,true,false,false,false] rfl rfl (one_of HT_.out (by kernel_rfl)) (by decide) (fun K hK => ?_)
   refine goes_ Try.func16 (by kernel_rfl) rfl #[.agg #[.int .i64 t516, .int .i64 t517, .int .i64 t518, .int .i64 t519, .int .i64 t520, .int .i64 t521, .int .i64 t522, .int .i64 t523], .agg #[.slice A1_0 l1_0.length c1_0, .int .i64 a1_1, .int .i64 a1_2, .int .i64 a1_3, .int .i64 a1_4], .int .i64 0] (by rfl) rfl rfl (by (try simp only [List.map_toArray, List.map_cons, List.map_nil]); first | done | rfl | (simp only [List.length_drop, List.length_take]; rfl)) ?_
   with_reducible refine (verdict_Of.calls kj4 t516 t517 t518 t519 t520 t521 t522 t523 _ _ l1_0 a1_1 a1_2 a1_3 a1_4 0 t533 _ ?side1 ?side2 A42.out).mono ?_
   (case side1 => exact bQ HR1_0)
   (case side2 => exact HC1_0.out)
   rintro e w46 ⟨rfl, hb⟩
   refine ⟨_, rfl, ?_⟩
   replace BK510 := bA (bB BK510 hb)
   replace BK511 := bA (bB BK511 hb)
   replace BK512 := bA (bB BK512 hb)
   replace BK532 := bA (bB BK532 hb)
   replace HB := bA (bS hb)
   (try clear hb)
   refine hK.out _ _ ⟨bq BK510 0, bq BK510 1, bq BK510 2, bq BK510 3, bq BK510 4, bq BK510 5, bq BK510 6, bq BK510 7, bq BK511 0, bq BK511 1, bq BK511 2, bq BK511 3, bq BK511 4, bq BK532 0, bq BK532 1, bq BK532 2, bq BK532 3, bq BK532 4, bq BK532 5, bq BK532 6, bq BK532 7⟩ (fun hHeld => ?_)
   clear hK K
   refine bI 36 ?_
   refine one_ (i := 6) (N := some 40) #[true,true,true,true,true,true,true,false,false] rfl rfl (one_of HT_.out (by kernel_rfl)) (by decide) (fun K hK => ?_)
   refine goes_ Try.func16 (by kernel_rfl) rfl #[.agg #[.int .i64 t524, .int .i64 t525, .int .i64 t526, .int .i64 t527, .int .i64 t528, .int .i64 t529, .int .i64 t530, .int .i64 t531], .agg #[.slice A1_0 l1_0.length c1_0, .int .i64 a1_1, .int .i64 a1_2, .int .i64 a1_3, .int .i64 a1_4], .int .i64 (Go.bits .and .i64 a2 1023)] (by rfl) rfl rfl (by (try simp only [List.map_toArray, List.map_cons, List.map_nil]); first | done | rfl | (simp only [List.length_drop, List.length_take]; rfl)) ?_
   with_reducible refine (verdict_Of.calls kj4 t524 t525 t526 t527 t528 t529 t530 t531 _ _ l1_0 a1_1 a1_2 a1_3 a1_4 (Go.bits .and .i64 a2 1023) t534 _ ?side1 ?side2 A43.out).mono ?_
   (case side1 => exact bQ HR1_0)
   (case side2 => exact HC1_0.out)
   rintro e w47 ⟨rfl, hb⟩
   refine ⟨_, rfl, ?_⟩
   replace BK510 := bA (bB BK510 hb)
   replace BK511 := bA (bB BK511 hb)
   replace BK512 := bA (bB BK512 hb)
   replace BK532 := bA (bB BK532 hb)
   replace HB := bA (bS hb)
   (try clear hb)
   refine hK.out _ _ ⟨bq BK510 0, bq BK510 1, bq BK510 2, bq BK510 3, bq BK510 4, bq BK510 5, bq BK510 6, bq BK510 7, bq BK511 0, bq BK511 1, bq BK511 2, bq BK511 3, bq BK511 4, bq BK532 0, bq BK532 1, bq BK532 2, bq BK532 3, bq BK532 4, bq BK532 5, bq BK532 6, bq BK532 7⟩ (fun hHeld => ?_)
   clear hK K
   refine bI 40 ?_
   refine bU (i := 7) (N := some 10) ?_
   refine bU (i := 8) (N := some 11) ?_
   refine done_ (done_of HT_.out (by kernel_rfl)) ?_
   try go_wp2
   go_meet
   case rel => exact ⟨_, (t533), (t534), bs, bs, H', ⟨by have := HJ4.out; first | omega | exact Nat.le_refl _⟩, ⟨by (with_reducible repeat (first | refine blk_drewN ?_ _ | refine blk_drew ?_ | refine blk_alloc ?_ _)); exact BK510.out⟩, ⟨by (with_reducible repeat (first | refine blk_drewN ?_ _ | refine blk_drew ?_ | refine blk_alloc ?_ _)); exact BK511.out⟩, ⟨by (with_reducible repeat (first | refine blk_drewN ?_ _ | refine blk_drew ?_ | refine blk_alloc ?_ _)); exact BK512.out⟩, ⟨by (with_reducible repeat (first | refine blk_drewN ?_ _ | refine blk_drew ?_ | refine blk_alloc ?_ _)); exact BK532.out⟩, ⟨bX⟩⟩
  clear HC28
  try clear c1
  try clear c2
  try clear p2
  try clear c3
  try clear c4
  try clear c6
  try clear c9
  try clear c10
  try clear c11
  try clear c11b0
  try clear c11b1
  try clear c13
  try clear c14
  try clear c16
  try clear c18
  try clear c19
  try clear c23
  try clear c29
  try clear c30
  try clear c34
  try clear c38
  try clear c39
  try clear c40
  try clear hcz15_0
  try clear hcz15_1
  try clear hcz15_2
  try clear hcz15_3
  try clear hcz15_4
  try clear hcz20_0
  try clear hcz20_1
  try clear hcz20_2
  try clear hcz20_3
  try clear hcz20_4
  try clear hcz31_0
  try clear hcz31_1
  try clear hcz31_2
  try clear hcz31_3
  try clear hcz31_4
  try clear hcz31_5
  try clear hcz31_6
  try clear hcz31_7
  try clear hcz33_0
  try clear hcz33_1
  try clear hcz33_2
  try clear hcz33_3
  try clear hcz33_4
  try clear hcz33_5
  try clear hcz33_6
  try clear hcz33_7
  try clear hcz35_0
  try clear hcz35_1
  try clear hcz35_2
  try clear hcz35_3
  try clear hcz35_4
  try clear hcz35_5
  try clear hcz41_0
  try clear hcz41_1
  try clear hcz41_2
  try clear hcz41_3
  try clear hcz41_4
  try clear hcz41_5
  try clear hcz41_6
  try clear hcz41_7
  try clear hfz15_0
  try clear hfz15_1
  try clear hfz15_2
  try clear hfz15_3
  try clear hfz15_4
  try clear hfz20_0
  try clear hfz20_1
  try clear hfz20_2
  try clear hfz20_3
  try clear hfz20_4
  try clear hfz31_0
  try clear hfz31_1
  try clear hfz31_2
  try clear hfz31_3
  try clear hfz31_4
  try clear hfz31_5
  try clear hfz31_6
  try clear hfz31_7
  try clear hfz33_0
  try clear hfz33_1
  try clear hfz33_2
  try clear hfz33_3
  try clear hfz33_4
  try clear hfz33_5
  try clear hfz33_6
  try clear hfz33_7
  try clear hfz35_0
  try clear hfz35_1
  try clear hfz35_2
  try clear hfz35_3
  try clear hfz35_4
  try clear hfz35_5
  try clear hfz41_0
  try clear hfz41_1
  try clear hfz41_2
  try clear hfz41_3
  try clear hfz41_4
  try clear hfz41_5
  try clear hfz41_6
  try clear hfz41_7
  try clear p2
  obtain ⟨kq, x10_27, x11_27, rfl, rfl, HA, HJ27, BK510, BK511, BK512, BK532, HB⟩ := hcut
  cases kq with
  | zero => exact absurd HA.out (by simp [apogeelaw19_VerdictTruth.j1])
  | succ kj27 =>
   have H := HA.out
   clear HA
   simp only [apogeelaw19_VerdictTruth.j1] at H
   by_cases c48 : x10_27 = 1
   rw [if_pos c48] at H
   have c48b0 : (x10_27 == 1) = true := beq_iff_eq.mpr c48
   have c48b1 : (x10_27 != 1) = false := bne_eq_false_iff_eq.mpr c48
   clear c48
   by_cases c49 : x11_27 = 3
   rw [if_pos c49] at H
   exact absurd H (by simp)
   rw [if_neg c49] at H
   have c49b0 : (x11_27 == 3) = false := beq_eq_false_iff_ne.mpr c49
   have c49b1 : (x11_27 != 3) = true := bne_iff_ne.mpr c49
   by_cases c50 : x10_27 = 3
   rw [if_pos c50] at H
   have c50b0 : (x10_27 == 3) = true := beq_iff_eq.mpr c50
   have c50b1 : (x10_27 != 3) = false := bne_eq_false_iff_eq.mpr c50
   clear c50
   obtain rfl := Option.some.inj H
   rotate_left
   rw [if_neg c50] at H
   have c50b0 : (x10_27 == 3) = false := beq_eq_false_iff_ne.mpr c50
   have c50b1 : (x10_27 != 3) = true := bne_iff_ne.mpr c50
   obtain rfl := Option.some.inj H
   rotate_left
   rw [if_neg c48] at H
   have c48b0 : (x10_27 == 1) = false := beq_eq_false_iff_ne.mpr c48
   have c48b1 : (x10_27 != 1) = true := bne_iff_ne.mpr c48
   by_cases c51 : x10_27 = 3
   rw [if_pos c51] at H
   have c51b0 : (x10_27 == 3) = true := beq_iff_eq.mpr c51
   have c51b1 : (x10_27 != 3) = false := bne_eq_false_iff_eq.mpr c51
   clear c51
   obtain rfl := Option.some.inj H
   rotate_left
   rw [if_neg c51] at H
   have c51b0 : (x10_27 == 3) = false := beq_eq_false_iff_ne.mpr c51
   have c51b1 : (x10_27 != 3) = true := bne_iff_ne.mpr c51
   obtain rfl := Option.some.inj H
   rotate_left
   all_goals go_wp2
   all_goals (go_ret; exact bF)
/-! ### apogeeref17_May: function 35 -/
def apogeeref17_May.f (a0 : Int) (a1 : Int) (a2 : Int) : Option (Bool) := if a0 ≥ (-2147483648) then (if a0 ≤ 2147483648 then (if a1 ≥ (-131072) then (if a1 ≤ 131072 then (if a2 ≥ 1 then (some (decide (a2 ≤ 100))) else (some false)) else (some false)) else (some false)) else (some false)) else (some false)
set_option maxHeartbeats 8000000 in
set_option maxRecDepth 100000 in
theorem apogeeref17_May.calls (a0 : Int) (a1 : Int) (a2 : Int) (r : Bool) (w : World) (h : apogeeref17_May.f a0 a1 a2 = some r) :
  Calls Try.prog 35 #[.int .i64 a0, .int .i64 a1, .int .i64 a2] w fun e w' => e = .returned (.bool r) ∧ Drawn0 w w' := by
 have H : (if a0 ≥ (-2147483648) then (if a0 ≤ 2147483648 then (if a1 ≥ (-131072) then (if a1 ≤ 131072 then (if a2 ≥ 1 then (some (decide (a2 ≤ 100))) else (some false)) else (some false)) else (some false)) else (some false)) else (some false)) = some r := h
 clear h
 by_cases c4 : a0 ≥ (-2147483648)
 rw [if_pos c4] at H
 have c4b0 : decide ((-2147483648) ≤ a0) = true := decide_eq_true c4
 clear c4
 by_cases c5 : a0 ≤ 2147483648
 rw [if_pos c5] at H
 have c5b0 : decide (a0 ≤ 2147483648) = true := decide_eq_true c5
 clear c5
 by_cases c6 : a1 ≥ (-131072)
 rw [if_pos c6] at H
 have c6b0 : decide ((-131072) ≤ a1) = true := decide_eq_true c6
 clear c6
 by_cases c7 : a1 ≤ 131072
 rw [if_pos c7] at H
 have c7b0 : decide (a1 ≤ 131072) = true := decide_eq_true c7
 clear c7
 by_cases c8 : a2 ≥ 1
 rw [if_pos c8] at H
 have c8b0 : decide (1 ≤ a2) = true := decide_eq_true c8
 clear c8
 obtain rfl := Option.some.inj H
 rotate_left
 rw [if_neg c8] at H
 have c8b0 : decide (1 ≤ a2) = false := decide_eq_false c8
 clear c8
 obtain rfl := Option.some.inj H
 rotate_left
 rw [if_neg c7] at H
 have c7b0 : decide (a1 ≤ 131072) = false := decide_eq_false c7
 clear c7
 obtain rfl := Option.some.inj H
 rotate_left
 rw [if_neg c6] at H
 have c6b0 : decide ((-131072) ≤ a1) = false := decide_eq_false c6
 clear c6
 obtain rfl := Option.some.inj H
 rotate_left
 rw [if_neg c5] at H
 have c5b0 : decide (a0 ≤ 2147483648) = false := decide_eq_false c5
 clear c5
 obtain rfl := Option.some.inj H
 rotate_left
 rw [if_neg c4] at H
 have c4b0 : decide ((-2147483648) ≤ a0) = false := decide_eq_false c4
 clear c4
 obtain rfl := Option.some.inj H
 rotate_left
 all_goals go_enter Try.func35, Try.ntmps35
 all_goals go_wp2
 all_goals (go_ret; exact bD)
/-! ### apogeeref18_May: function 17 -/
def apogeeref18_May.f (a0_0 : Int) (a0_1 : Int) (a0_2 : Int) (a0_3 : Int) (a0_4 : Int) (a0_5 : Int) (a0_6 : Int) (a0_7 : Int) (a1 : Int) (a2 : Int) : Option (Bool) := if a0_2 < (-2147483648) then (some false) else (if a0_2 > 2147483648 then (some false) else (if a0_3 < (-2147483648) then (some false) else (if a0_3 > 2147483648 then (some false) else (if a0_5 < (-131072) then (some false) else (if a0_5 > 131072 then (some false) else (if a0_6 < (-131072) then (some false) else (if a0_6 > 131072 then (some false) else (if a2 < 0 then (some false) else (if a2 > 2048 then (some false) else ((apogeeref17_May.f a0_4 a0_7 a1).bind fun t536 => (some t536)))))))))))
set_option maxHeartbeats 8000000 in
set_option maxRecDepth 100000 in
theorem apogeeref18_May.calls (a0_0 : Int) (a0_1 : Int) (a0_2 : Int) (a0_3 : Int) (a0_4 : Int) (a0_5 : Int) (a0_6 : Int) (a0_7 : Int) (a1 : Int) (a2 : Int) (r : Bool) (w : World) (h : apogeeref18_May.f a0_0 a0_1 a0_2 a0_3 a0_4 a0_5 a0_6 a0_7 a1 a2 = some r) :
  Calls Try.prog 17 #[.agg #[.int .i64 a0_0, .int .i64 a0_1, .int .i64 a0_2, .int .i64 a0_3, .int .i64 a0_4, .int .i64 a0_5, .int .i64 a0_6, .int .i64 a0_7], .int .i64 a1, .int .i64 a2] w fun e w' => e = .returned (.bool r) ∧ Below w.heap.size w w' := by
 have hu23 := Try.underlying23
 have HB := bA (Below.refl w.heap.size w)
 have H : (if a0_2 < (-2147483648) then (some false) else (if a0_2 > 2147483648 then (some false) else (if a0_3 < (-2147483648) then (some false) else (if a0_3 > 2147483648 then (some false) else (if a0_5 < (-131072) then (some false) else (if a0_5 > 131072 then (some false) else (if a0_6 < (-131072) then (some false) else (if a0_6 > 131072 then (some false) else (if a2 < 0 then (some false) else (if a2 > 2048 then (some false) else ((apogeeref17_May.f a0_4 a0_7 a1).bind fun t536 => (some t536)))))))))))) = some r := h
 clear h
 by_cases c4 : a0_2 < (-2147483648)
 rw [if_pos c4] at H
 have c4b0 : decide (a0_2 < (-2147483648)) = true := decide_eq_true c4
 clear c4
 obtain rfl := Option.some.inj H
 rotate_left
 rw [if_neg c4] at H
 have c4b0 : decide (a0_2 < (-2147483648)) = false := decide_eq_false c4
 clear c4
 by_cases c7 : a0_2 > 2147483648
 rw [if_pos c7] at H
 have c7b0 : decide (2147483648 < a0_2) = true := decide_eq_true c7
 clear c7
 obtain rfl := Option.some.inj H
 rotate_left
 rw [if_neg c7] at H
 have c7b0 : decide (2147483648 < a0_2) = false := decide_eq_false c7
 clear c7
 by_cases c10 : a0_3 < (-2147483648)
 rw [if_pos c10] at H
 have c10b0 : decide (a0_3 < (-2147483648)) = true := decide_eq_true c10
 clear c10
 obtain rfl := Option.some.inj H
 rotate_left
 rw [if_neg c10] at H
 have c10b0 : decide (a0_3 < (-2147483648)) = false := decide_eq_false c10
 clear c10
 by_cases c13 : a0_3 > 2147483648
 rw [if_pos c13] at H
 have c13b0 : decide (2147483648 < a0_3) = true := decide_eq_true c13
 clear c13
 obtain rfl := Option.some.inj H
 rotate_left
 rw [if_neg c13] at H
 have c13b0 : decide (2147483648 < a0_3) = false := decide_eq_false c13
 clear c13
 by_cases c16 : a0_5 < (-131072)
 rw [if_pos c16] at H
 have c16b0 : decide (a0_5 < (-131072)) = true := decide_eq_true c16
 clear c16
 obtain rfl := Option.some.inj H
 rotate_left
 rw [if_neg c16] at H
 have c16b0 : decide (a0_5 < (-131072)) = false := decide_eq_false c16
 clear c16
 by_cases c19 : a0_5 > 131072
 rw [if_pos c19] at H
 have c19b0 : decide (131072 < a0_5) = true := decide_eq_true c19
 clear c19
 obtain rfl := Option.some.inj H
 rotate_left
 rw [if_neg c19] at H
 have c19b0 : decide (131072 < a0_5) = false := decide_eq_false c19
 clear c19
 by_cases c22 : a0_6 < (-131072)
 rw [if_pos c22] at H
 have c22b0 : decide (a0_6 < (-131072)) = true := decide_eq_true c22
 clear c22
 obtain rfl := Option.some.inj H
 rotate_left
 rw [if_neg c22] at H
 have c22b0 : decide (a0_6 < (-131072)) = false := decide_eq_false c22
 clear c22
 by_cases c25 : a0_6 > 131072
 rw [if_pos c25] at H
 have c25b0 : decide (131072 < a0_6) = true := decide_eq_true c25
 clear c25
 obtain rfl := Option.some.inj H
 rotate_left
 rw [if_neg c25] at H
 have c25b0 : decide (131072 < a0_6) = false := decide_eq_false c25
 clear c25
 by_cases c28 : a2 < 0
 rw [if_pos c28] at H
 have c28b0 : decide (a2 < 0) = true := decide_eq_true c28
 clear c28
 obtain rfl := Option.some.inj H
 rotate_left
 rw [if_neg c28] at H
 have c28b0 : decide (a2 < 0) = false := decide_eq_false c28
 clear c28
 by_cases c31 : a2 > 2048
 rw [if_pos c31] at H
 have c31b0 : decide (2048 < a2) = true := decide_eq_true c31
 clear c31
 obtain rfl := Option.some.inj H
 rotate_left
 rw [if_neg c31] at H
 have c31b0 : decide (2048 < a2) = false := decide_eq_false c31
 clear c31
 replace H := Option.bind_eq_some_iff.mp H
 obtain ⟨t536, A340, H⟩ := H
 have A34 := bA A340
 clear A340
 obtain rfl := Option.some.inj H
 rotate_left
 all_goals go_enter Try.func17, Try.ntmps17
 all_goals go_wp2_with (first | ((with_reducible refine gate_dst (N := 3) rfl ?_); refine bE (N := 3) (cs := #[.int .i64 a0_0, .int .i64 a0_1, .int .i64 a0_2, .int .i64 a0_3, .int .i64 a0_4, .int .i64 a0_5, .int .i64 a0_6, .int .i64 a0_7]) (t := 23) ?_; intro gb535 hg wz0 hbox hb; have BK535 := bA (hbox); have GW535 := bA (bZ hg); have GE535 := bA (bZ hg); replace HB := bA (bS hb); clear hb hbox hg; obtain ⟨hz1, hz2, hz3, hz4, hz5, hz6, hz7, hz8, hz9, hz10, hz11, hz12, hz13, hz14, hz15, hz16⟩ := bc8 BK535) | ((first | ((with_reducible refine gate_callee (f := 35) rfl ?_); refine bC (some 65) Try.func35 #[.int .i64 a0_4, .int .i64 a0_7, .int .i64 a1] ?_) | go_at_call 35); (with_reducible refine (apogeeref17_May.calls a0_4 a0_7 a1 t536 _ A34.out).mono ?_); rintro e w' ⟨rfl, ⟨nd, rfl⟩⟩; (first | refine ⟨_, rfl, ?_⟩ | skip)))
 all_goals (go_ret; exact bF)
end Go.Proofs.Ytfeekdoakoabeaa.G
