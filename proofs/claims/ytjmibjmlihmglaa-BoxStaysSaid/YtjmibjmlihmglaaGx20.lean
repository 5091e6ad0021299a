-- Written by a program of this session out of the translation; Lean checks it.
import Derived.Test.YtjmibjmlihmglaaGx0
import Derived.Test.YtjmibjmlihmglaaGx15
import Derived.Test.YtjmibjmlihmglaaGx19
namespace Go.Proofs.Ytjmibjmlihmglaa.G
open Go.RowKit Go.Proofs.YtjmibjmlihmglaaW.PrintWords Go.Proofs.YtjmibjmlihmglaaW.PrintLast Go.Proofs.YtjmibjmlihmglaaW.PrintMore
attribute [local go_sem] max2_int min2_int max_two min_two max_three min_three max_four min_four   -- for this text's walks alone
set_option linter.unusedVariables false
set_option linter.unusedSimpArgs false

/-! ### apogeeref12_Meets: function 45 -/
mutual
def apogeeref12_Meets.j0 : Nat → Bool → Int → Int → Int → Int → Int → Int → Int → Int → Option (Bool)
 | 0, _, _, _, _, _, _, _, _, _ => none
 | k + 1, x21, x514000, x514001, x514002, x514003, x515000, x515001, x516000, x516001 => if x21 = true then (some false) else ((apogeeref12_Has.f x514000 x514001 x514002 x514003 x515000 x515001).bind fun t519 => (if t519 = true then (apogeeref12_Meets.j1 k true x514000 x514001 x514002 x514003 x515000 x515001 x516000 x516001) else ((apogeeref12_Has.f x514000 x514001 x514002 x514003 x516000 x516001).bind fun t520 => (apogeeref12_Meets.j1 k t520 x514000 x514001 x514002 x514003 x515000 x515001 x516000 x516001))))
def apogeeref12_Meets.j1 : Nat → Bool → Int → Int → Int → Int → Int → Int → Int → Int → Option (Bool)
 | 0, _, _, _, _, _, _, _, _, _ => none
 | k + 1, x29, x514000, x514001, x514002, x514003, x515000, x515001, x516000, x516001 => if x29 = true then (some true) else ((apogeeref12_Corners.f x514000 x514001 x514002 x514003).bind fun t521 => (apogeeref12_Meets.l0 k t521 0 x515000 x515001 x516000 x516001))
def apogeeref12_Meets.l0 : Nat → List (S41) → Int → Int → Int → Int → Int → Option (Bool)
 | 0, _, _, _, _, _, _ => none
 | k + 1, x7, x8, x515000, x515001, x516000, x516001 => if x8 < 4 then (if 0 ≤ x8 then (if x8 < (x7.length : Int) then (if 0 ≤ (Int.tmod (wrap64 (x8 + 1)) 4) then (if (Int.tmod (wrap64 (x8 + 1)) 4) < (x7.length : Int) then ((apogeeref10_Meet.f k x515000 x515001 x516000 x516001 ((rd_T41 x7 x8).f0) ((rd_T41 x7 x8).f1) ((rd_T41 x7 (Int.tmod (wrap64 (x8 + 1)) 4)).f0) ((rd_T41 x7 (Int.tmod (wrap64 (x8 + 1)) 4)).f1)).bind fun t526 => (if t526 = true then (some true) else (apogeeref12_Meets.l0 k x7 (wrap64 (x8 + 1)) x515000 x515001 x516000 x516001))) else (none)) else (none)) else (none)) else (none)) else (some false)
end
def apogeeref12_Meets.f (k : Nat) (a0_0 : Int) (a0_1 : Int) (a0_2 : Int) (a0_3 : Int) (a1_0 : Int) (a1_1 : Int) (a2_0 : Int) (a2_1 : Int) : Option (Bool) := (apogeeref12_Right.f a0_0 a0_1 a0_2 a0_3).bind fun t516 => (if t516 = true then ((apogeeref10_Right.f a1_0 a1_1).bind fun t517 => (if t517 = true then ((apogeeref10_Right.f a2_0 a2_1).bind fun t518 => (apogeeref12_Meets.j0 k (!t518) a0_0 a0_1 a0_2 a0_3 a1_0 a1_1 a2_0 a2_1)) else (apogeeref12_Meets.j0 k true a0_0 a0_1 a0_2 a0_3 a1_0 a1_1 a2_0 a2_1))) else (apogeeref12_Meets.j0 k true a0_0 a0_1 a0_2 a0_3 a1_0 a1_1 a2_0 a2_1))
theorem apogeeref12_Meets.mono_l : ∀ k, (∀ y0 y1 y2 y3 y4 y5 y6 y7 y8, LeO (apogeeref12_Meets.j0 k y0 y1 y2 y3 y4 y5 y6 y7 y8) (apogeeref12_Meets.j0 (k + 1) y0 y1 y2 y3 y4 y5 y6 y7 y8)) ∧ (∀ y0 y1 y2 y3 y4 y5 y6 y7 y8, LeO (apogeeref12_Meets.j1 k y0 y1 y2 y3 y4 y5 y6 y7 y8) (apogeeref12_Meets.j1 (k + 1) y0 y1 y2 y3 y4 y5 y6 y7 y8)) ∧ (∀ y0 y1 y2 y3 y4 y5, LeO (apogeeref12_Meets.l0 k y0 y1 y2 y3 y4 y5) (apogeeref12_Meets.l0 (k + 1) y0 y1 y2 y3 y4 y5))
 | 0 => ⟨fun _ _ _ _ _ _ _ _ _ r h => by simp [apogeeref12_Meets.j0] at h, fun _ _ _ _ _ _ _ _ _ r h => by simp [apogeeref12_Meets.j1] at h, fun _ _ _ _ _ _ r h => by simp [apogeeref12_Meets.l0] at h⟩
 | k + 1 => by
  obtain ⟨ih0, ih1, ih2⟩ := apogeeref12_Meets.mono_l k
  refine ⟨?_, ?_, ?_⟩
  ·intro y0 y1 y2 y3 y4 y5 y6 y7 y8
   unfold apogeeref12_Meets.j0
   repeat' first
   | (with_reducible exact ih0 _ _ _ _ _ _ _ _ _)
   | (with_reducible exact ih1 _ _ _ _ _ _ _ _ _)
   | (with_reducible exact ih2 _ _ _ _ _ _)
   | (with_reducible exact apogeeref10_Meet.mono _ _ _ _ _ _ _ _ _)
   | (with_reducible exact LeO.refl _)
   | (with_reducible exact LeO.none _)
   | (with_reducible refine LeO.ite ?_ ?_)
   | (with_reducible refine LeO.bind ?_ (fun _ => ?_))
   | exact ih0 _ _ _ _ _ _ _ _ _
   | exact ih1 _ _ _ _ _ _ _ _ _
   | exact ih2 _ _ _ _ _ _
   | exact apogeeref10_Meet.mono _ _ _ _ _ _ _ _ _
   | exact LeO.none _
   | refine LeO.ite ?_ ?_
   | refine LeO.bind ?_ (fun _ => ?_)
  ·intro y0 y1 y2 y3 y4 y5 y6 y7 y8
   unfold apogeeref12_Meets.j1
   repeat' first
   | (with_reducible exact ih0 _ _ _ _ _ _ _ _ _)
   | (with_reducible exact ih1 _ _ _ _ _ _ _ _ _)
   | (with_reducible exact ih2 _ _ _ _ _ _)
   | (with_reducible exact apogeeref10_Meet.mono _ _ _ _ _ _ _ _ _)
   | (with_reducible exact LeO.refl _)
   | (with_reducible exact LeO.none _)
   | (with_reducible refine LeO.ite ?_ ?_)
   | (with_reducible refine LeO.bind ?_ (fun _ => ?_))
   | exact ih0 _ _ _ _ _ _ _ _ _
   | exact ih1 _ _ _ _ _ _ _ _ _
   | exact ih2 _ _ _ _ _ _
   | exact apogeeref10_Meet.mono _ _ _ _ _ _ _ _ _
   | exact LeO.none _
   | refine LeO.ite ?_ ?_
   | refine LeO.bind ?_ (fun _ => ?_)
  ·intro y0 y1 y2 y3 y4 y5
   unfold apogeeref12_Meets.l0
   repeat' first
   | (with_reducible exact ih0 _ _ _ _ _ _ _ _ _)
   | (with_reducible exact ih1 _ _ _ _ _ _ _ _ _)
   | (with_reducible exact ih2 _ _ _ _ _ _)
   | (with_reducible exact apogeeref10_Meet.mono _ _ _ _ _ _ _ _ _)
   | (with_reducible exact LeO.refl _)
   | (with_reducible exact LeO.none _)
   | (with_reducible refine LeO.ite ?_ ?_)
   | (with_reducible refine LeO.bind ?_ (fun _ => ?_))
   | exact ih0 _ _ _ _ _ _ _ _ _
   | exact ih1 _ _ _ _ _ _ _ _ _
   | exact ih2 _ _ _ _ _ _
   | exact apogeeref10_Meet.mono _ _ _ _ _ _ _ _ _
   | exact LeO.none _
   | refine LeO.ite ?_ ?_
   | refine LeO.bind ?_ (fun _ => ?_)
theorem apogeeref12_Meets.mono : ∀ a0 a1 a2 a3 a4 a5 a6 a7 k, LeO (apogeeref12_Meets.f k a0 a1 a2 a3 a4 a5 a6 a7) (apogeeref12_Meets.f (k + 1) a0 a1 a2 a3 a4 a5 a6 a7) := by
 intro a0 a1 a2 a3 a4 a5 a6 a7 k
 obtain ⟨ih0, ih1, ih2⟩ := apogeeref12_Meets.mono_l k
 unfold apogeeref12_Meets.f
 repeat' first
   | (with_reducible exact ih0 _ _ _ _ _ _ _ _ _)
   | (with_reducible exact ih1 _ _ _ _ _ _ _ _ _)
   | (with_reducible exact ih2 _ _ _ _ _ _)
   | (with_reducible exact apogeeref10_Meet.mono _ _ _ _ _ _ _ _ _)
   | (with_reducible exact LeO.refl _)
   | (with_reducible exact LeO.none _)
   | (with_reducible refine LeO.ite ?_ ?_)
   | (with_reducible refine LeO.bind ?_ (fun _ => ?_))
   | exact ih0 _ _ _ _ _ _ _ _ _
   | exact ih1 _ _ _ _ _ _ _ _ _
   | exact ih2 _ _ _ _ _ _
   | exact apogeeref10_Meet.mono _ _ _ _ _ _ _ _ _
   | exact LeO.none _
   | refine LeO.ite ?_ ?_
   | refine LeO.bind ?_ (fun _ => ?_)
def apogeeref12_Meets.T9 : Bool × List (List Nat × List Nat) := (true, [([], []), ([], []), ([], []), ([], []), ([2, 3], [2, 3]), ([4], [4]), ([], []), ([], []), ([7], [7]), ([8], [8]), ([6, 9], [6, 9]), ([10], [10]), ([0, 1, 5, 11], [0, 1, 5, 11])])
def apogeeref12_Meets.B9 : List Nat := [0, 0, 0, 0, 12, 28, 0, 0, 128, 384, 960, 1984, 4095]
theorem apogeeref12_Meets.tab9 : rtab .any (opsOf Try.f45 9) = apogeeref12_Meets.T9 := by kernel_rfl
theorem apogeeref12_Meets.bits9 : waitsOk apogeeref12_Meets.T9.2 apogeeref12_Meets.B9 = true := by kernel_rfl
set_option maxHeartbeats 8000000 in
set_option maxRecDepth 100000 in
theorem apogeeref12_Meets.calls (k : Nat) (a0_0 : Int) (a0_1 : Int) (a0_2 : Int) (a0_3 : Int) (a1_0 : Int) (a1_1 : Int) (a2_0 : Int) (a2_1 : Int) (r : Bool) (w : World) (h : apogeeref12_Meets.f k a0_0 a0_1 a0_2 a0_3 a1_0 a1_1 a2_0 a2_1 = some r) :
  Calls Try.prog 45 #[.agg #[.int .i64 a0_0, .int .i64 a0_1, .int .i64 a0_2, .int .i64 a0_3], .agg #[.int .i64 a1_0, .int .i64 a1_1], .agg #[.int .i64 a2_0, .int .i64 a2_1]] w fun e w' => e = .returned (.bool r) ∧ Below w.heap.size w w' := by
 have hu44 := Try.underlying44
 have hu41 := Try.underlying41
 have HB := bA (Below.refl w.heap.size w)
 have H : ((apogeeref12_Right.f a0_0 a0_1 a0_2 a0_3).bind fun t516 => (if t516 = true then ((apogeeref10_Right.f a1_0 a1_1).bind fun t517 => (if t517 = true then ((apogeeref10_Right.f a2_0 a2_1).bind fun t518 => (apogeeref12_Meets.j0 k (!t518) a0_0 a0_1 a0_2 a0_3 a1_0 a1_1 a2_0 a2_1)) else (apogeeref12_Meets.j0 k true a0_0 a0_1 a0_2 a0_3 a1_0 a1_1 a2_0 a2_1))) else (apogeeref12_Meets.j0 k true a0_0 a0_1 a0_2 a0_3 a1_0 a1_1 a2_0 a2_1))) = some r := h
 clear h
 have HC4 := bA H
 clear H
 go_enter Try.func45, Try.ntmps45
 go_upto_region 1 with (first | ((with_reducible refine gate_dst (N := 3) rfl ?_); refine bE (N := 3) (cs := #[.int .i64 a0_0, .int .i64 a0_1, .int .i64 a0_2, .int .i64 a0_3]) (t := 44) ?_; intro gb513 hg w5 hbox hb; have n0_ := bA (bS hb); have n1_ := bA (hbox); have n2_ := bA (bZ hg); have n3_ := bA (bZ hg); clear HB; have HB := n0_; have BK513 := n1_; have GW513 := n2_; have GE513 := n3_; clear n0_ n1_ n2_ n3_; clear hb hbox hg) | ((with_reducible refine gate_dst (N := 4) rfl ?_); refine bE (N := 4) (cs := #[.int .i64 a1_0, .int .i64 a1_1]) (t := 41) ?_; intro gb514 hg w6 hbox hb; have n0_ := bA (bB BK513 hb); have n1_ := bA (bS hb); have n2_ := bA (hbox); have n3_ := bA (bZ hg); have n4_ := bA (bZ hg); have n5_ := bA (bL BK513 hg); have n6_ := bA (bG BK513 hg); clear BK513; clear HB; have BK513 := n0_; have HB := n1_; have BK514 := n2_; have GW514 := n3_; have GE514 := n4_; have NB513_514 := n5_; have NB514_513 := n6_; clear n0_ n1_ n2_ n3_ n4_ n5_ n6_; clear hb hbox hg) | ((with_reducible refine gate_dst (N := 5) rfl ?_); refine bE (N := 5) (cs := #[.int .i64 a2_0, .int .i64 a2_1]) (t := 41) ?_; intro gb515 hg w7 hbox hb; have n0_ := bA (bB BK513 hb); have n1_ := bA (bB BK514 hb); have n2_ := bA (bS hb); have n3_ := bA (hbox); have n4_ := bA (bZ hg); have n5_ := bA (bZ hg); have n6_ := bA (bL BK513 hg); have n7_ := bA (bG BK513 hg); have n8_ := bA (bL BK514 hg); have n9_ := bA (bG BK514 hg); clear BK513; clear BK514; clear HB; have BK513 := n0_; have BK514 := n1_; have HB := n2_; have BK515 := n3_; have GW515 := n4_; have GE515 := n5_; have NB513_515 := n6_; have NB515_513 := n7_; have NB514_515 := n8_; have NB515_514 := n9_; clear n0_ n1_ n2_ n3_ n4_ n5_ n6_ n7_ n8_ n9_; clear hb hbox hg))
 (try simp only [Act.put, List.setIfInBounds_toArray, List.set_cons_zero, List.set_cons_succ])
 go_cut [21] (fun v21 wc => ∃ (kq : Nat) (x21_3 : Bool), v21 = .bool x21_3 ∧ Aside0 (apogeeref12_Meets.j0 kq x21_3 a0_0 a0_1 a0_2 a0_3 a1_0 a1_1 a2_0 a2_1 = some r) ∧ Aside0 (kq ≤ k) ∧ Aside0 (wc.heap[gb513]? = some (.cells #[.int .i64 a0_0, .int .i64 a0_1, .int .i64 a0_2, .int .i64 a0_3] 44 (0, 0))) ∧ Aside0 (wc.heap[gb514]? = some (.cells #[.int .i64 a1_0, .int .i64 a1_1] 41 (0, 0))) ∧ Aside0 (wc.heap[gb515]? = some (.cells #[.int .i64 a2_0, .int .i64 a2_1] 41 (0, 0))) ∧ Aside0 (Below w.heap.size w wc))
 case first =>
  have H := HC4.out
  clear HC4
  replace H := Option.bind_eq_some_iff.mp H
  obtain ⟨t516, A80, H⟩ := H
  have A8 := bA A80
  clear A80
  by_cases c9 : t516 = true
  subst c9
  rw [if_pos rfl] at H
  replace H := Option.bind_eq_some_iff.mp H
  obtain ⟨t517, A100, H⟩ := H
  have A10 := bA A100
  clear A100
  by_cases c11 : t517 = true
  subst c11
  rw [if_pos rfl] at H
  replace H := Option.bind_eq_some_iff.mp H
  obtain ⟨t518, A120, H⟩ := H
  have A12 := bA A120
  clear A120
  have H' := bA H
  clear H
  have hnb13 := NB513_514.out
  have hnc13 := NB514_513.out
  have hnb14 := NB513_515.out
  have hnc14 := NB515_513.out
  obtain ⟨hcz15_0, hcz15_1, hcz15_2, hcz15_3, hfz15_0, hfz15_1, hfz15_2, hfz15_3⟩ := bc4 BK513
  rotate_left
  replace c11 := Bool.eq_false_iff.mpr c11
  subst c11
  rw [if_neg bn] at H
  have H' := bA H
  clear H
  have hnb22 := NB513_514.out
  have hnc22 := NB514_513.out
  have hnb23 := NB513_515.out
  have hnc23 := NB515_513.out
  obtain ⟨hcz24_0, hcz24_1, hcz24_2, hcz24_3, hfz24_0, hfz24_1, hfz24_2, hfz24_3⟩ := bc4 BK513
  rotate_left
  replace c9 := Bool.eq_false_iff.mpr c9
  subst c9
  rw [if_neg bn] at H
  have H' := bA H
  clear H
  have hnb29 := NB513_514.out
  have hnc29 := NB514_513.out
  have hnb30 := NB513_515.out
  have hnc30 := NB515_513.out
  obtain ⟨hcz31_0, hcz31_1, hcz31_2, hcz31_3, hfz31_0, hfz31_1, hfz31_2, hfz31_3⟩ := bc4 BK513
  rotate_left
  all_goals go_wp2_with (first | ((first | ((with_reducible refine gate_callee (f := 49) rfl ?_); refine bC (some 10) Try.func49 #[.agg #[.int .i64 a0_0, .int .i64 a0_1, .int .i64 a0_2, .int .i64 a0_3]] ?_) | go_at_call 49); (with_reducible refine (apogeeref12_Right.calls a0_0 a0_1 a0_2 a0_3 true _ A8.out).mono ?_); rintro e wz0 ⟨rfl, hb⟩; (first | refine ⟨_, rfl, ?_⟩ | skip); replace BK513 := bA (bB BK513 hb); replace BK514 := bA (bB BK514 hb); replace BK515 := bA (bB BK515 hb); replace HB := bA (bS hb); (try clear hb); have hz1 := NB514_515.out; have hz2 := NB515_514.out; obtain ⟨hz3, hz4, hz5, hz6⟩ := bc2 BK514) | (go_at_call 40; (with_reducible refine (apogeeref10_Right.calls a1_0 a1_1 true _ A10.out).mono ?_); rintro e wz1 ⟨rfl, hb⟩; replace BK513 := bA (bB BK513 hb); replace BK514 := bA (bB BK514 hb); replace BK515 := bA (bB BK515 hb); replace HB := bA (bS hb); (try clear hb); obtain ⟨hz7, hz8, hz9, hz10⟩ := bc2 BK515) | (go_at_call 40; (with_reducible refine (apogeeref10_Right.calls a2_0 a2_1 t518 _ A12.out).mono ?_); rintro e wz2 ⟨rfl, hb⟩; replace BK513 := bA (bB BK513 hb); replace BK514 := bA (bB BK514 hb); replace BK515 := bA (bB BK515 hb); replace HB := bA (bS hb); (try clear hb)) | (go_at_call 40; (with_reducible refine (apogeeref10_Right.calls a1_0 a1_1 false _ A10.out).mono ?_); rintro e wz1 ⟨rfl, hb⟩; replace BK513 := bA (bB BK513 hb); replace BK514 := bA (bB BK514 hb); replace BK515 := bA (bB BK515 hb); replace HB := bA (bS hb); (try clear hb)) | ((first | ((with_reducible refine gate_callee (f := 49) rfl ?_); refine bC (some 10) Try.func49 #[.agg #[.int .i64 a0_0, .int .i64 a0_1, .int .i64 a0_2, .int .i64 a0_3]] ?_) | go_at_call 49); (with_reducible refine (apogeeref12_Right.calls a0_0 a0_1 a0_2 a0_3 false _ A8.out).mono ?_); rintro e wz0 ⟨rfl, hb⟩; (first | refine ⟨_, rfl, ?_⟩ | skip); replace BK513 := bA (bB BK513 hb); replace BK514 := bA (bB BK514 hb); replace BK515 := bA (bB BK515 hb); replace HB := bA (bS hb); (try clear hb)))
  ·go_meet
   case rel => exact ⟨_, (!t518), bs, H', ⟨by first | omega | exact Nat.le_refl _⟩, ⟨by (with_reducible repeat (first | refine blk_drewN ?_ _ | refine blk_drew ?_ | refine blk_alloc ?_ _)); exact BK513.out⟩, ⟨by (with_reducible repeat (first | refine blk_drewN ?_ _ | refine blk_drew ?_ | refine blk_alloc ?_ _)); exact BK514.out⟩, ⟨by (with_reducible repeat (first | refine blk_drewN ?_ _ | refine blk_drew ?_ | refine blk_alloc ?_ _)); exact BK515.out⟩, ⟨bX⟩⟩
  ·go_meet
   case rel => exact ⟨_, (true), bs, H', ⟨by first | omega | exact Nat.le_refl _⟩, ⟨by (with_reducible repeat (first | refine blk_drewN ?_ _ | refine blk_drew ?_ | refine blk_alloc ?_ _)); exact BK513.out⟩, ⟨by (with_reducible repeat (first | refine blk_drewN ?_ _ | refine blk_drew ?_ | refine blk_alloc ?_ _)); exact BK514.out⟩, ⟨by (with_reducible repeat (first | refine blk_drewN ?_ _ | refine blk_drew ?_ | refine blk_alloc ?_ _)); exact BK515.out⟩, ⟨bX⟩⟩
  go_meet
  case rel => exact ⟨_, (true), bs, H', ⟨by first | omega | exact Nat.le_refl _⟩, ⟨by (with_reducible repeat (first | refine blk_drewN ?_ _ | refine blk_drew ?_ | refine blk_alloc ?_ _)); exact BK513.out⟩, ⟨by (with_reducible repeat (first | refine blk_drewN ?_ _ | refine blk_drew ?_ | refine blk_alloc ?_ _)); exact BK514.out⟩, ⟨by (with_reducible repeat (first | refine blk_drewN ?_ _ | refine blk_drew ?_ | refine blk_alloc ?_ _)); exact BK515.out⟩, ⟨bX⟩⟩
 clear HC4
 try clear c1
 try clear c2
 try clear p2
 try clear c3
 try clear c4
 try clear c9
 try clear c11
 try clear c13
 try clear c14
 try clear c17
 try clear c22
 try clear c23
 try clear c26
 try clear c29
 try clear c30
 try clear hcz15_0
 try clear hcz15_1
 try clear hcz15_2
 try clear hcz15_3
 try clear hcz18_0
 try clear hcz18_1
 try clear hcz20_0
 try clear hcz20_1
 try clear hcz24_0
 try clear hcz24_1
 try clear hcz24_2
 try clear hcz24_3
 try clear hcz27_0
 try clear hcz27_1
 try clear hcz31_0
 try clear hcz31_1
 try clear hcz31_2
 try clear hcz31_3
 try clear hfz15_0
 try clear hfz15_1
 try clear hfz15_2
 try clear hfz15_3
 try clear hfz18_0
 try clear hfz18_1
 try clear hfz20_0
 try clear hfz20_1
 try clear hfz24_0
 try clear hfz24_1
 try clear hfz24_2
 try clear hfz24_3
 try clear hfz27_0
 try clear hfz27_1
 try clear hfz31_0
 try clear hfz31_1
 try clear hfz31_2
 try clear hfz31_3
 obtain ⟨kq, x21_3, rfl, HA, HJ3, BK513, BK514, BK515, HB⟩ := hcut
 cases kq with
 | zero => exact absurd HA.out (by simp [apogeeref12_Meets.j0])
 | succ kj3 =>
  have H := HA.out
  clear HA
  simp only [apogeeref12_Meets.j0] at H
  by_cases c33 : x21_3 = true
  ·subst c33
   rw [if_pos rfl] at H
   obtain rfl := Option.some.inj H
   go_wp2
   go_ret
   exact bF
  replace c33 := Bool.eq_false_iff.mpr c33
  subst c33
  rw [if_neg bn] at H
  have HC34 := bA H
  clear H
  go_upto_region 3 with (fail)
  go_cut [29] (fun v29 wc => ∃ (kq : Nat) (x29_33 : Bool), v29 = .bool x29_33 ∧ Aside0 (apogeeref12_Meets.j1 kq x29_33 a0_0 a0_1 a0_2 a0_3 a1_0 a1_1 a2_0 a2_1 = some r) ∧ Aside0 (kq ≤ kj3) ∧ Aside0 (wc.heap[gb513]? = some (.cells #[.int .i64 a0_0, .int .i64 a0_1, .int .i64 a0_2, .int .i64 a0_3] 44 (0, 0))) ∧ Aside0 (wc.heap[gb514]? = some (.cells #[.int .i64 a1_0, .int .i64 a1_1] 41 (0, 0))) ∧ Aside0 (wc.heap[gb515]? = some (.cells #[.int .i64 a2_0, .int .i64 a2_1] 41 (0, 0))) ∧ Aside0 (Below w.heap.size w wc))
  case first =>
   have H := HC34.out
   clear HC34
   replace H := Option.bind_eq_some_iff.mp H
   obtain ⟨t519, A350, H⟩ := H
   have A35 := bA A350
   clear A350
   by_cases c36 : t519 = true
   subst c36
   rw [if_pos rfl] at H
   have H' := bA H
   clear H
   have hnb37 := NB513_514.out
   have hnc37 := NB514_513.out
   have hnb38 := NB513_515.out
   have hnc38 := NB515_513.out
   obtain ⟨hcz39_0, hcz39_1, hcz39_2, hcz39_3, hfz39_0, hfz39_1, hfz39_2, hfz39_3⟩ := bc4 BK513
   have hnb40 := NB514_515.out
   have hnc40 := NB515_514.out
   obtain ⟨hcz41_0, hcz41_1, hfz41_0, hfz41_1⟩ := bc2 BK514
   rotate_left
   replace c36 := Bool.eq_false_iff.mpr c36
   subst c36
   rw [if_neg bn] at H
   replace H := Option.bind_eq_some_iff.mp H
   obtain ⟨t520, A430, H⟩ := H
   have A43 := bA A430
   clear A430
   have H' := bA H
   clear H
   have hnb44 := NB513_514.out
   have hnc44 := NB514_513.out
   have hnb45 := NB513_515.out
   have hnc45 := NB515_513.out
   obtain ⟨hcz46_0, hcz46_1, hcz46_2, hcz46_3, hfz46_0, hfz46_1, hfz46_2, hfz46_3⟩ := bc4 BK513
   have hnb47 := NB514_515.out
   have hnc47 := NB515_514.out
   obtain ⟨hcz48_0, hcz48_1, hfz48_0, hfz48_1⟩ := bc2 BK514
   rotate_left
   all_goals go_wp2_with (first | ((first | ((with_reducible refine gate_callee (f := 94) rfl ?_); refine bC (some 24) Try.func94 #[.agg #[.int .i64 a0_0, .int .i64 a0_1, .int .i64 a0_2, .int .i64 a0_3], .agg #[.int .i64 a1_0, .int .i64 a1_1]] ?_) | go_at_call 94); (with_reducible refine (apogeeref12_Has.calls a0_0 a0_1 a0_2 a0_3 a1_0 a1_1 true _ A35.out).mono ?_); rintro e wz0 ⟨rfl, hb⟩; (first | refine ⟨_, rfl, ?_⟩ | skip); replace BK513 := bA (bB BK513 hb); replace BK514 := bA (bB BK514 hb); replace BK515 := bA (bB BK515 hb); replace HB := bA (bS hb); (try clear hb)) | ((first | ((with_reducible refine gate_callee (f := 94) rfl ?_); refine bC (some 24) Try.func94 #[.agg #[.int .i64 a0_0, .int .i64 a0_1, .int .i64 a0_2, .int .i64 a0_3], .agg #[.int .i64 a1_0, .int .i64 a1_1]] ?_) | go_at_call 94); (with_reducible refine (apogeeref12_Has.calls a0_0 a0_1 a0_2 a0_3 a1_0 a1_1 false _ A35.out).mono ?_); rintro e wz0 ⟨rfl, hb⟩; (first | refine ⟨_, rfl, ?_⟩ | skip); replace BK513 := bA (bB BK513 hb); replace BK514 := bA (bB BK514 hb); replace BK515 := bA (bB BK515 hb); replace HB := bA (bS hb); (try clear hb); obtain ⟨hz1, hz2, hz3, hz4, hz5, hz6, hz7, hz8⟩ := bc4 BK513; obtain ⟨hz9, hz10, hz11, hz12⟩ := bc2 BK515) | (go_at_call 94; (with_reducible refine (apogeeref12_Has.calls a0_0 a0_1 a0_2 a0_3 a2_0 a2_1 t520 _ A43.out).mono ?_); rintro e wz1 ⟨rfl, hb⟩; replace BK513 := bA (bB BK513 hb); replace BK514 := bA (bB BK514 hb); replace BK515 := bA (bB BK515 hb); replace HB := bA (bS hb); (try clear hb)))
   ·go_meet
    case rel => exact ⟨_, (true), bs, H', ⟨by have := HJ3.out; first | omega | exact Nat.le_refl _⟩, ⟨by (with_reducible repeat (first | refine blk_drewN ?_ _ | refine blk_drew ?_ | refine blk_alloc ?_ _)); exact BK513.out⟩, ⟨by (with_reducible repeat (first | refine blk_drewN ?_ _ | refine blk_drew ?_ | refine blk_alloc ?_ _)); exact BK514.out⟩, ⟨by (with_reducible repeat (first | refine blk_drewN ?_ _ | refine blk_drew ?_ | refine blk_alloc ?_ _)); exact BK515.out⟩, ⟨bX⟩⟩
   go_meet
   case rel => exact ⟨_, (t520), bs, H', ⟨by have := HJ3.out; first | omega | exact Nat.le_refl _⟩, ⟨by (with_reducible repeat (first | refine blk_drewN ?_ _ | refine blk_drew ?_ | refine blk_alloc ?_ _)); exact BK513.out⟩, ⟨by (with_reducible repeat (first | refine blk_drewN ?_ _ | refine blk_drew ?_ | refine blk_alloc ?_ _)); exact BK514.out⟩, ⟨by (with_reducible repeat (first | refine blk_drewN ?_ _ | refine blk_drew ?_ | refine blk_alloc ?_ _)); exact BK515.out⟩, ⟨bX⟩⟩
  clear HC34
  try clear c1
  try clear c2
  try clear p2
  try clear c3
  try clear c4
  try clear c9
  try clear c11
  try clear c13
  try clear c14
  try clear c17
  try clear c22
  try clear c23
  try clear c26
  try clear c29
  try clear c30
  try clear c33
  try clear c36
  try clear c37
  try clear c38
  try clear c40
  try clear c44
  try clear c45
  try clear c47
  try clear c49
  try clear hcz15_0
  try clear hcz15_1
  try clear hcz15_2
  try clear hcz15_3
  try clear hcz18_0
  try clear hcz18_1
  try clear hcz20_0
  try clear hcz20_1
  try clear hcz24_0
  try clear hcz24_1
  try clear hcz24_2
  try clear hcz24_3
  try clear hcz27_0
  try clear hcz27_1
  try clear hcz31_0
  try clear hcz31_1
  try clear hcz31_2
  try clear hcz31_3
  try clear hcz39_0
  try clear hcz39_1
  try clear hcz39_2
  try clear hcz39_3
  try clear hcz41_0
  try clear hcz41_1
  try clear hcz46_0
  try clear hcz46_1
  try clear hcz46_2
  try clear hcz46_3
  try clear hcz48_0
  try clear hcz48_1
  try clear hcz50_0
  try clear hcz50_1
  try clear hcz50_2
  try clear hcz50_3
  try clear hcz51_0
  try clear hcz51_1
  try clear hfz15_0
  try clear hfz15_1
  try clear hfz15_2
  try clear hfz15_3
  try clear hfz18_0
  try clear hfz18_1
  try clear hfz20_0
  try clear hfz20_1
  try clear hfz24_0
  try clear hfz24_1
  try clear hfz24_2
  try clear hfz24_3
  try clear hfz27_0
  try clear hfz27_1
  try clear hfz31_0
  try clear hfz31_1
  try clear hfz31_2
  try clear hfz31_3
  try clear hfz39_0
  try clear hfz39_1
  try clear hfz39_2
  try clear hfz39_3
  try clear hfz41_0
  try clear hfz41_1
  try clear hfz46_0
  try clear hfz46_1
  try clear hfz46_2
  try clear hfz46_3
  try clear hfz48_0
  try clear hfz48_1
  try clear hfz50_0
  try clear hfz50_1
  try clear hfz50_2
  try clear hfz50_3
  try clear hfz51_0
  try clear hfz51_1
  try clear p2
  obtain ⟨kq, x29_33, rfl, HA, HJ33, BK513, BK514, BK515, HB⟩ := hcut
  cases kq with
  | zero => exact absurd HA.out (by simp [apogeeref12_Meets.j1])
  | succ kj33 =>
   have H := HA.out
   clear HA
   simp only [apogeeref12_Meets.j1] at H
   by_cases c53 : x29_33 = true
   ·subst c53
    rw [if_pos rfl] at H
    obtain rfl := Option.some.inj H
    go_wp2
    go_ret
    exact bF
   replace c53 := Bool.eq_false_iff.mpr c53
   subst c53
   rw [if_neg bn] at H
   replace H := Option.bind_eq_some_iff.mp H
   obtain ⟨t521, A540, H⟩ := H
   have A54 := bA A540
   clear A540
   have H' := bA H
   clear H
   have hnb55 := NB513_514.out
   have hnc55 := NB514_513.out
   have hnb56 := NB513_515.out
   have hnc56 := NB515_513.out
   obtain ⟨hcz57_0, hcz57_1, hcz57_2, hcz57_3, hfz57_0, hfz57_1, hfz57_2, hfz57_3⟩ := bc4 BK513
   go_wp2_with (first | ((first | ((with_reducible refine gate_callee (f := 95) rfl ?_); refine bC (some 31) Try.func95 #[.agg #[.int .i64 a0_0, .int .i64 a0_1, .int .i64 a0_2, .int .i64 a0_3]] ?_) | go_at_call 95); (with_reducible refine (apogeeref12_Corners.calls a0_0 a0_1 a0_2 a0_3 t521 _ A54.out).mono ?_); rintro e w58 ⟨v522, rfl, ho0, hb⟩; (first | refine ⟨_, rfl, ?_⟩ | skip); have HO523 := bA (Kd.R_lower (bN (bN ho0 BK514) BK515) bY); replace BK513 := bA (bB BK513 hb); replace BK514 := bA (bB BK514 hb); replace BK515 := bA (bB BK515 hb); replace HB := bA (bS hb); (try clear hb); (try clear ho0)))
   go_loopg [8] kj33 (fun kq v8 w' => ∃ (x8_3 : Int), v8 = .int .i64 x8_3 ∧ Aside0 (apogeeref12_Meets.l0 kq t521 x8_3 a1_0 a1_1 a2_0 a2_1 = some r) ∧ Aside0 (kq ≤ kj33) ∧ Aside0 (Kd.R k41 41 w' w.heap.size (fun k_ => k_ ≠ gb514 ∧ k_ ≠ gb515) v522 t521) ∧ Aside0 (w'.heap[gb513]? = some (.cells #[.int .i64 a0_0, .int .i64 a0_1, .int .i64 a0_2, .int .i64 a0_3] 44 (0, 0))) ∧ Aside0 (w'.heap[gb514]? = some (.cells #[.int .i64 a1_0, .int .i64 a1_1] 41 (0, 0))) ∧ Aside0 (w'.heap[gb515]? = some (.cells #[.int .i64 a2_0, .int .i64 a2_1] 41 (0, 0))) ∧ Aside0 (Below w.heap.size w w'))
   case atStart => exact ⟨(0), bs, H', ⟨Nat.le_refl _⟩, ⟨by (with_reducible repeat (first | apply Kd.R_alloc | apply Kd.R_drewN | apply Kd.R_drew)); exact Kd.R_mono HO523.out (fun _ hk => ⟨hk.1.2, hk.2⟩)⟩, ⟨by (with_reducible repeat (first | refine blk_drewN ?_ _ | refine blk_drew ?_ | refine blk_alloc ?_ _)); exact BK513.out⟩, ⟨by (with_reducible repeat (first | refine blk_drewN ?_ _ | refine blk_drew ?_ | refine blk_alloc ?_ _)); exact BK514.out⟩, ⟨by (with_reducible repeat (first | refine blk_drewN ?_ _ | refine blk_drew ?_ | refine blk_alloc ?_ _)); exact BK515.out⟩, ⟨bX⟩⟩
   clear H'
   try clear c1
   try clear c2
   try clear p2
   try clear c3
   try clear c4
   try clear c5
   try clear c9
   try clear c11
   try clear c13
   try clear c14
   try clear c17
   try clear c22
   try clear c23
   try clear c26
   try clear c29
   try clear c30
   try clear c33
   try clear c36
   try clear c37
   try clear c38
   try clear c40
   try clear c44
   try clear c45
   try clear c47
   try clear c49
   try clear c53
   try clear c55
   try clear c56
   try clear hcz15_0
   try clear hcz15_1
   try clear hcz15_2
   try clear hcz15_3
   try clear hcz18_0
   try clear hcz18_1
   try clear hcz20_0
   try clear hcz20_1
   try clear hcz24_0
   try clear hcz24_1
   try clear hcz24_2
   try clear hcz24_3
   try clear hcz27_0
   try clear hcz27_1
   try clear hcz31_0
   try clear hcz31_1
   try clear hcz31_2
   try clear hcz31_3
   try clear hcz39_0
   try clear hcz39_1
   try clear hcz39_2
   try clear hcz39_3
   try clear hcz41_0
   try clear hcz41_1
   try clear hcz46_0
   try clear hcz46_1
   try clear hcz46_2
   try clear hcz46_3
   try clear hcz48_0
   try clear hcz48_1
   try clear hcz50_0
   try clear hcz50_1
   try clear hcz50_2
   try clear hcz50_3
   try clear hcz51_0
   try clear hcz51_1
   try clear hcz57_0
   try clear hcz57_1
   try clear hcz57_2
   try clear hcz57_3
   try clear hfz15_0
   try clear hfz15_1
   try clear hfz15_2
   try clear hfz15_3
   try clear hfz18_0
   try clear hfz18_1
   try clear hfz20_0
   try clear hfz20_1
   try clear hfz24_0
   try clear hfz24_1
   try clear hfz24_2
   try clear hfz24_3
   try clear hfz27_0
   try clear hfz27_1
   try clear hfz31_0
   try clear hfz31_1
   try clear hfz31_2
   try clear hfz31_3
   try clear hfz39_0
   try clear hfz39_1
   try clear hfz39_2
   try clear hfz39_3
   try clear hfz41_0
   try clear hfz41_1
   try clear hfz46_0
   try clear hfz46_1
   try clear hfz46_2
   try clear hfz46_3
   try clear hfz48_0
   try clear hfz48_1
   try clear hfz50_0
   try clear hfz50_1
   try clear hfz50_2
   try clear hfz50_3
   try clear hfz51_0
   try clear hfz51_1
   try clear hfz57_0
   try clear hfz57_1
   try clear hfz57_2
   try clear hfz57_3
   try clear p2
   obtain ⟨x8_3, rfl, HA, HK3, HO_7, BK513, BK514, BK515, HB⟩ := hrel
   cases gk with
   | zero => exact absurd HA.out (by simp [apogeeref12_Meets.l0])
   | succ k3 =>
    have H := HA.out
    clear HA
    simp only [apogeeref12_Meets.l0] at H
    by_cases c59 : x8_3 < 4
    rotate_left
    ·rw [if_neg c59] at H
     have c59b0 : decide (x8_3 < 4) = false := decide_eq_false c59
     clear c59
     obtain rfl := Option.some.inj H
     go_wp2
     go_ret
     exact bF
    rw [if_pos c59] at H
    have c59b0 : decide (x8_3 < 4) = true := decide_eq_true c59
    clear c59
    by_cases c60 : 0 ≤ x8_3
    rotate_left
    ·rw [if_neg c60] at H
     exact absurd H (by simp)
    rw [if_pos c60] at H
    have c60b0 : decide (0 ≤ x8_3) = true := decide_eq_true c60
    clear c60
    by_cases c61 : x8_3 < (t521.length : Int)
    rotate_left
    ·rw [if_neg c61] at H
     exact absurd H (by simp)
    rw [if_pos c61] at H
    have c61b0 : decide (x8_3 < (t521.length : Int)) = true := decide_eq_true c61
    clear c61
    obtain ⟨ji62, hji62⟩ : ∃ j_ : Int, (Int.tmod (wrap64 (x8_3 + 1)) 4) = j_ := ⟨_, rfl⟩
    replace H : (if 0 ≤ (ji62) then (if (ji62) < (t521.length : Int) then ((apogeeref10_Meet.f k3 a1_0 a1_1 a2_0 a2_1 ((rd_T41 t521 x8_3).f0) ((rd_T41 t521 x8_3).f1) ((rd_T41 t521 (ji62)).f0) ((rd_T41 t521 (ji62)).f1)).bind fun t526 => (if t526 = true then (some true) else (apogeeref12_Meets.l0 k3 t521 (wrap64 (x8_3 + 1)) a1_0 a1_1 a2_0 a2_1))) else (none)) else (none)) = some r := by first | (rw [hji62] at H; exact H) | (simp only [hji62] at H ⊢; exact H)
    by_cases c63 : 0 ≤ (ji62)
    rotate_left
    ·rw [if_neg c63] at H
     exact absurd H (by simp)
    rw [if_pos c63] at H
    have c63b0 : decide (0 ≤ (ji62)) = true := decide_eq_true c63
    clear c63
    by_cases c64 : (ji62) < (t521.length : Int)
    rotate_left
    ·rw [if_neg c64] at H
     exact absurd H (by simp)
    rw [if_pos c64] at H
    have c64b0 : decide ((ji62) < (t521.length : Int)) = true := decide_eq_true c64
    clear c64
    replace H := Option.bind_eq_some_iff.mp H
    obtain ⟨t526, A650, H⟩ := H
    have A65 := bA A650
    clear A650
    by_cases c66 : t526 = true
    ·subst c66
     rw [if_pos rfl] at H
     obtain rfl := Option.some.inj H
     try go_wp2
     replace HO_7 := bA (Kd.R_drew HO_7.out)
     replace BK513 := bA (blk_drew BK513.out)
     replace BK514 := bA (blk_drew BK514.out)
     replace BK515 := bA (blk_drew BK515.out)
     replace HB := bA (below_drew1 HB.out)
     obtain ⟨Ao68, co68, eo68⟩ := Kd.R_slice HO_7.out
     (first | subst eo68 | (injection eo68 with f1_ f2_ f3_; have f4_ := f1_.symm; have f5_ := f3_.symm; clear f1_ f2_ f3_; subst f4_; subst f5_))
     have p524 : 0 ≤ (x8_3 : Int) := bo
     have q524 : x8_3 < (t521.length : Int) := bo
     obtain ⟨ad524, e524, hx524_0, hx524_1⟩ := at_T41 (Kd.R_reads' HO_7.out).2.2 x8_3 p524 q524
     cases e524
     replace p524 := eq_true p524
     replace q524 := eq_true q524
     have p525 : 0 ≤ ((ji62) : Int) := bo
     have q525 : (ji62) < (t521.length : Int) := bo
     obtain ⟨ad525, e525, hx525_0, hx525_1⟩ := at_T41 (Kd.R_reads' HO_7.out).2.2 (ji62) p525 q525
     obtain rfl : ad524 = ad525 := (by injection e525)
     replace p525 := eq_true p525
     replace q525 := eq_true q525
     refine start_ (n := 13) (S := fun w' => w'.cell? ⟨gb514, 0, none⟩ = some (.int .i64 a1_0) ∧ w'.cell? ⟨gb514, 1, none⟩ = some (.int .i64 a1_1) ∧ w'.cell? ⟨gb515, 0, none⟩ = some (.int .i64 a2_0) ∧ w'.cell? ⟨gb515, 1, none⟩ = some (.int .i64 a2_1) ∧ w'.cell? (ad524.add ((x8_3).toNat * 2)) = some (.int .i64 ((rd_T41 t521 x8_3).f0)) ∧ w'.cell? ⟨(ad524.add ((x8_3).toNat * 2)).block, (ad524.add ((x8_3).toNat * 2)).off + 1, none⟩ = some (.int .i64 ((rd_T41 t521 x8_3).f1)) ∧ w'.cell? (ad524.add (((ji62)).toNat * 2)) = some (.int .i64 ((rd_T41 t521 (ji62)).f0)) ∧ w'.cell? ⟨(ad524.add (((ji62)).toNat * 2)).block, (ad524.add (((ji62)).toNat * 2)).off + 1, none⟩ = some (.int .i64 ((rd_T41 t521 (ji62)).f1))) (ds := []) #[false,false,false,false,false,false,false,false,false,false,false,false,false] (by kernel_rfl) rfl rfl ⟨bq BK514 0, bq BK514 1, bq BK515 0, bq BK515 1, hx524_0, hx524_1, hx525_0, hx525_1⟩ (fun hHeld => ?_); refine with_tabW apogeeref12_Meets.tab9 apogeeref12_Meets.bits9 (fun HT_ HW_ => ?_)
     generalize wr.drew = w67 at HO_7 BK513 BK514 BK515 HB hx524_0 hx524_1 hx525_0 hx525_1 hHeld ⊢
     refine bU (i := 2) (N := some 38) ?_
     refine bU (i := 3) (N := some 39) ?_
     refine bU (i := 4) (N := some 40) ?_
     refine bU (i := 6) (N := some 42) ?_
     refine bU (i := 7) (N := some 43) ?_
     refine bU (i := 8) (N := some 44) ?_
     refine bU (i := 9) (N := some 45) ?_
     refine bU (i := 10) (N := some 46) ?_
     refine bW (i := 0) (N := some 36) hHeld ?_
     refine bW (i := 1) (N := some 37) hHeld ?_
     refine bW (i := 5) (N := some 41) hHeld ?_
     refine bW (i := 11) (N := some 47) hHeld ?_
     refine one_ (i := 12) (N := some 48) #[true,true,true,true,true,true,true,true,true,true,true,true,true] rfl rfl (one_of HT_.out (by kernel_rfl)) (by decide) (fun K hK => ?_)
     refine goes_ Try.func71 (by kernel_rfl) rfl #[.agg #[.int .i64 a1_0, .int .i64 a1_1], .agg #[.int .i64 a2_0, .int .i64 a2_1], .agg #[.int .i64 ((rd_T41 t521 x8_3).f0), .int .i64 ((rd_T41 t521 x8_3).f1)], .agg #[.int .i64 ((rd_T41 t521 (ji62)).f0), .int .i64 ((rd_T41 t521 (ji62)).f1)]] (by rfl) rfl rfl (by (try simp only [List.map_toArray, List.map_cons, List.map_nil]); first | done | (simp only [hji62]; rfl) | rfl | (simp only [List.length_drop, List.length_take]; rfl)) ?_
     with_reducible refine (apogeeref10_Meet.calls k3 a1_0 a1_1 a2_0 a2_1 ((rd_T41 t521 x8_3).f0) ((rd_T41 t521 x8_3).f1) ((rd_T41 t521 (ji62)).f0) ((rd_T41 t521 (ji62)).f1) true _ A65.out).mono ?_
     rintro e w69 ⟨rfl, hb⟩
     have HS4_ := (hb.cell (World.block_lt_of_cell? _ _ (hHeld.2.2.2.2.1))).trans (hHeld.2.2.2.2.1)
     have HS5_ := (hb.cell (World.block_lt_of_cell? _ _ (hHeld.2.2.2.2.2.1))).trans (hHeld.2.2.2.2.2.1)
     have HS6_ := (hb.cell (World.block_lt_of_cell? _ _ (hHeld.2.2.2.2.2.2.1))).trans (hHeld.2.2.2.2.2.2.1)
     have HS7_ := (hb.cell (World.block_lt_of_cell? _ _ (hHeld.2.2.2.2.2.2.2))).trans (hHeld.2.2.2.2.2.2.2)
     refine ⟨_, rfl, ?_⟩
     replace HO_7 := bA (Kd.R_below (bRr HO_7) hb)
     replace BK513 := bA (bB BK513 hb)
     replace BK514 := bA (bB BK514 hb)
     replace BK515 := bA (bB BK515 hb)
     replace HB := bA (bS hb)
     (try clear hb)
     refine hK.out _ _ ⟨bq BK514 0, bq BK514 1, bq BK515 0, bq BK515 1, HS4_, HS5_, HS6_, HS7_⟩ (fun hHeld => ?_)
     clear hK K
     refine bH ?_
     refine done_ (done_of HT_.out (by kernel_rfl)) ?_
     try go_wp2
     go_ret
     exact ⟨by first | rfl | (simp [errW_none, errW_some] <;> rfl) | (simp only [← hji62]; first | rfl | (simp [errW_none, errW_some] <;> rfl)) | (simp [*, errW_none, errW_some] <;> rfl), by repeat (first | (with_reducible first | exact HB.out | apply below_alloc | apply pw_below_drewN | apply below_drew1 | refine below_set ?_ GE513.out | refine below_set ?_ GE514.out | refine below_set ?_ GE515.out) | exact HB.out)⟩
    replace c66 := Bool.eq_false_iff.mpr c66
    subst c66
    rw [if_neg bn] at H
    have H' := bA H
    clear H
    try go_wp2
    replace HO_7 := bA (Kd.R_drew HO_7.out)
    replace BK513 := bA (blk_drew BK513.out)
    replace BK514 := bA (blk_drew BK514.out)
    replace BK515 := bA (blk_drew BK515.out)
    replace HB := bA (below_drew1 HB.out)
    obtain ⟨Ao71, co71, eo71⟩ := Kd.R_slice HO_7.out
    (first | subst eo71 | (injection eo71 with f1_ f2_ f3_; have f4_ := f1_.symm; have f5_ := f3_.symm; clear f1_ f2_ f3_; subst f4_; subst f5_))
    have p524 : 0 ≤ (x8_3 : Int) := bo
    have q524 : x8_3 < (t521.length : Int) := bo
    obtain ⟨ad524, e524, hx524_0, hx524_1⟩ := at_T41 (Kd.R_reads' HO_7.out).2.2 x8_3 p524 q524
    cases e524
    replace p524 := eq_true p524
    replace q524 := eq_true q524
    have p525 : 0 ≤ ((ji62) : Int) := bo
    have q525 : (ji62) < (t521.length : Int) := bo
    obtain ⟨ad525, e525, hx525_0, hx525_1⟩ := at_T41 (Kd.R_reads' HO_7.out).2.2 (ji62) p525 q525
    obtain rfl : ad524 = ad525 := (by injection e525)
    replace p525 := eq_true p525
    replace q525 := eq_true q525
    refine start_ (n := 13) (S := fun w' => w'.cell? ⟨gb514, 0, none⟩ = some (.int .i64 a1_0) ∧ w'.cell? ⟨gb514, 1, none⟩ = some (.int .i64 a1_1) ∧ w'.cell? ⟨gb515, 0, none⟩ = some (.int .i64 a2_0) ∧ w'.cell? ⟨gb515, 1, none⟩ = some (.int .i64 a2_1) ∧ w'.cell? (ad524.add ((x8_3).toNat * 2)) = some (.int .i64 ((rd_T41 t521 x8_3).f0)) ∧ w'.cell? ⟨(ad524.add ((x8_3).toNat * 2)).block, (ad524.add ((x8_3).toNat * 2)).off + 1, none⟩ = some (.int .i64 ((rd_T41 t521 x8_3).f1)) ∧ w'.cell? (ad524.add (((ji62)).toNat * 2)) = some (.int .i64 ((rd_T41 t521 (ji62)).f0)) ∧ w'.cell? ⟨(ad524.add (((ji62)).toNat * 2)).block, (ad524.add (((ji62)).toNat * 2)).off + 1, none⟩ = some (.int .i64 ((rd_T41 t521 (ji62)).f1))) (ds := []) #[false,false,false,false,false,false,false,false,false,false,false,false,false] (by kernel_rfl) rfl rfl ⟨bq BK514 0, bq BK514 1, bq BK515 0, bq BK515 1, hx524_0, hx524_1, hx525_0, hx525_1⟩ (fun hHeld => ?_); refine with_tabW apogeeref12_Meets.tab9 apogeeref12_Meets.bits9 (fun HT_ HW_ => ?_)
    generalize wr.drew = w70 at HO_7 BK513 BK514 BK515 HB hx524_0 hx524_1 hx525_0 hx525_1 hHeld ⊢
    refine bU (i := 2) (N := some 38) ?_
    refine bU (i := 3) (N := some 39) ?_
    refine bU (i := 4) (N := some 40) ?_
    refine bU (i := 6) (N := some 42) ?_
    refine bU (i := 7) (N := some 43) ?_
    refine bU (i := 8) (N := some 44) ?_
    refine bU (i := 9) (N := some 45) ?_
    refine bU (i := 10) (N := some 46) ?_
    refine bW (i := 0) (N := some 36) hHeld ?_
    refine bW (i := 1) (N := some 37) hHeld ?_
    refine bW (i := 5) (N := some 41) hHeld ?_
    refine bW (i := 11) (N := some 47) hHeld ?_
    refine one_ (i := 12) (N := some 48) #[true,true,true,true,true,true,true,true,true,true,true,true,true] rfl rfl (one_of HT_.out (by kernel_rfl)) (by decide) (fun K hK => ?_)
    refine goes_ Try.func71 (by kernel_rfl) rfl #[.agg #[.int .i64 a1_0, .int .i64 a1_1], .agg #[.int .i64 a2_0, .int .i64 a2_1], .agg #[.int .i64 ((rd_T41 t521 x8_3).f0), .int .i64 ((rd_T41 t521 x8_3).f1)], .agg #[.int .i64 ((rd_T41 t521 (ji62)).f0), .int .i64 ((rd_T41 t521 (ji62)).f1)]] (by rfl) rfl rfl (by (try simp only [List.map_toArray, List.map_cons, List.map_nil]); first | done | (simp only [hji62]; rfl) | rfl | (simp only [List.length_drop, List.length_take]; rfl)) ?_
    with_reducible refine (apogeeref10_Meet.calls k3 a1_0 a1_1 a2_0 a2_1 ((rd_T41 t521 x8_3).f0) ((rd_T41 t521 x8_3).f1) ((rd_T41 t521 (ji62)).f0) ((rd_T41 t521 (ji62)).f1) false _ A65.out).mono ?_
    rintro e w72 ⟨rfl, hb⟩
    have HS4_ := (hb.cell (World.block_lt_of_cell? _ _ (hHeld.2.2.2.2.1))).trans (hHeld.2.2.2.2.1)
    have HS5_ := (hb.cell (World.block_lt_of_cell? _ _ (hHeld.2.2.2.2.2.1))).trans (hHeld.2.2.2.2.2.1)
    have HS6_ := (hb.cell (World.block_lt_of_cell? _ _ (hHeld.2.2.2.2.2.2.1))).trans (hHeld.2.2.2.2.2.2.1)
    have HS7_ := (hb.cell (World.block_lt_of_cell? _ _ (hHeld.2.2.2.2.2.2.2))).trans (hHeld.2.2.2.2.2.2.2)
    refine ⟨_, rfl, ?_⟩
    replace HO_7 := bA (Kd.R_below (bRr HO_7) hb)
    replace BK513 := bA (bB BK513 hb)
    replace BK514 := bA (bB BK514 hb)
    replace BK515 := bA (bB BK515 hb)
    replace HB := bA (bS hb)
    (try clear hb)
    refine hK.out _ _ ⟨bq BK514 0, bq BK514 1, bq BK515 0, bq BK515 1, HS4_, HS5_, HS6_, HS7_⟩ (fun hHeld => ?_)
    clear hK K
    refine bH ?_
    refine done_ (done_of HT_.out (by kernel_rfl)) ?_
    try go_wp2
    go_roundg k3
    case measure => have := HJ3.out; have := HJ33.out; have := HK3.out; omega
    case rel => exact ⟨(wrap64 (x8_3 + 1)), bs, H', ⟨by have := HJ3.out; have := HJ33.out; have := HK3.out; omega⟩, ⟨bRr HO_7⟩, ⟨by (with_reducible repeat (first | refine blk_drewN ?_ _ | refine blk_drew ?_ | refine blk_alloc ?_ _)); exact BK513.out⟩, ⟨by (with_reducible repeat (first | refine blk_drewN ?_ _ | refine blk_drew ?_ | refine blk_alloc ?_ _)); exact BK514.out⟩, ⟨by (with_reducible repeat (first | refine blk_drewN ?_ _ | refine blk_drew ?_ | refine blk_alloc ?_ _)); exact BK515.out⟩, ⟨bX⟩⟩
end Go.Proofs.Ytjmibjmlihmglaa.G
