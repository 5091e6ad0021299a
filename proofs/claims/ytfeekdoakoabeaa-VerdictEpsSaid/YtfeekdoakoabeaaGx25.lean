-- Written by a program of this session out of the translation; Lean checks it.
import Derived.Test.YtfeekdoakoabeaaGx0
import Derived.Test.YtfeekdoakoabeaaGx16
import Derived.Test.YtfeekdoakoabeaaGx22
import Derived.Test.YtfeekdoakoabeaaGx24
namespace Go.Proofs.Ytfeekdoakoabeaa.G
open Go.RowKit Go.Proofs.YtfeekdoakoabeaaW.PrintWords Go.Proofs.YtfeekdoakoabeaaW.PrintLast Go.Proofs.YtfeekdoakoabeaaW.PrintMore
attribute [local go_sem] max2_int min2_int max_two min_two max_three min_three max_four min_four   -- for this text's walks alone
set_option linter.unusedVariables false
set_option linter.unusedSimpArgs false

/-! ### apogeelaw19_VerdictEps: function 5 -/
def apogeelaw19_VerdictEps.j0 : Nat → Int → Int → Bool → Int → Int → Int → Int → Int → Int → Int → Int → List (S28) → Int → Int → Int → Int → Option (Bool)
 | 0, _, _, _, _, _, _, _, _, _, _, _, _, _, _, _, _ => none
 | k + 1, x2, x3, x23, x538000, x538001, x538002, x538003, x538004, x538005, x538006, x538007, x539000, x539001, x539002, x539003, x539004 => if x23 = true then ((apogeelaw19_awake.f k).bind fun t541 => (some t541)) else ((verdict_Of.f k x538000 x538001 x538002 x538003 x538004 x538005 x538006 x538007 x539000 x539001 x539002 x539003 x539004 (Go.bits .and .i64 x2 1023)).bind fun t542 => ((verdict_Of.f k x538000 x538001 x538002 x538003 x538004 x538005 x538006 x538007 x539000 x539001 x539002 x539003 x539004 (wrap64 ((Go.bits .and .i64 x2 1023) + (Go.bits .and .i64 x3 1023)))).bind fun t543 => (if t542 = 4 then (if t543 = 4 then ((apogeeref18_May.f x538000 x538001 x538002 x538003 x538004 x538005 x538006 x538007 x539001 (Go.bits .and .i64 x2 1023)).bind fun t544 => (some (!t544))) else (none)) else (if t543 = t542 then (some true) else (if t543 = 4 then (some true) else (some (t543 == 2)))))))
def apogeelaw19_VerdictEps.f (k : Nat) (a0_0 : Int) (a0_1 : Int) (a0_2 : Int) (a0_3 : Int) (a0_4 : Int) (a0_5 : Int) (a0_6 : Int) (a0_7 : Int) (l1_0 : List (S28)) (a1_1 : Int) (a1_2 : Int) (a1_3 : Int) (a1_4 : Int) (a2 : Int) (a3 : Int) : Option (Bool) := (apogeelaw19_awake.f k).bind fun t539 => (if t539 = true then (if (l1_0.length : Int) > 12 then (apogeelaw19_VerdictEps.j0 k a2 a3 true a0_0 a0_1 a0_2 a0_3 a0_4 a0_5 a0_6 a0_7 l1_0 a1_1 a1_2 a1_3 a1_4) else ((apogeeref13_RightPhase.f k l1_0 a1_1 a1_2 a1_3 a1_4).bind fun t540 => (apogeelaw19_VerdictEps.j0 k a2 a3 (!t540) a0_0 a0_1 a0_2 a0_3 a0_4 a0_5 a0_6 a0_7 l1_0 a1_1 a1_2 a1_3 a1_4))) else (apogeelaw19_VerdictEps.j0 k a2 a3 true a0_0 a0_1 a0_2 a0_3 a0_4 a0_5 a0_6 a0_7 l1_0 a1_1 a1_2 a1_3 a1_4))
theorem apogeelaw19_VerdictEps.mono_l : ∀ k, (∀ y0 y1 y2 y3 y4 y5 y6 y7 y8 y9 y10 y11 y12 y13 y14 y15, LeO (apogeelaw19_VerdictEps.j0 k y0 y1 y2 y3 y4 y5 y6 y7 y8 y9 y10 y11 y12 y13 y14 y15) (apogeelaw19_VerdictEps.j0 (k + 1) y0 y1 y2 y3 y4 y5 y6 y7 y8 y9 y10 y11 y12 y13 y14 y15))
 | 0 => fun _ _ _ _ _ _ _ _ _ _ _ _ _ _ _ _ r h => by simp [apogeelaw19_VerdictEps.j0] at h
 | k + 1 => by
  have ih0 := apogeelaw19_VerdictEps.mono_l k
  ·intro y0 y1 y2 y3 y4 y5 y6 y7 y8 y9 y10 y11 y12 y13 y14 y15
   unfold apogeelaw19_VerdictEps.j0
   have m0_ := @apogeelaw19_awake.mono
   have m1_ := @apogeeref13_RightPhase.mono
   have m2_ := @verdict_Of.mono
   exact bMo
theorem apogeelaw19_VerdictEps.mono : ∀ a0 a1 a2 a3 a4 a5 a6 a7 a8 a9 a10 a11 a12 a13 a14 k, LeO (apogeelaw19_VerdictEps.f k a0 a1 a2 a3 a4 a5 a6 a7 a8 a9 a10 a11 a12 a13 a14) (apogeelaw19_VerdictEps.f (k + 1) a0 a1 a2 a3 a4 a5 a6 a7 a8 a9 a10 a11 a12 a13 a14) := by
 intro a0 a1 a2 a3 a4 a5 a6 a7 a8 a9 a10 a11 a12 a13 a14 k
 have ih0 := apogeelaw19_VerdictEps.mono_l k
 unfold apogeelaw19_VerdictEps.f
 have m0_ := @apogeelaw19_awake.mono
 have m1_ := @apogeeref13_RightPhase.mono
 have m2_ := @verdict_Of.mono
 exact bMo
def apogeelaw19_VerdictEps.T4 : Bool × List (List Nat × List Nat) := (true, [([], []), ([], []), ([], []), ([0, 1, 2], [0, 1, 2]), ([], []), ([], []), ([], []), ([], []), ([6, 7], [6, 7]), ([4, 5, 8, 3], [4, 5, 8]), ([3, 9, 0, 1, 2, 3], [3]), ([9, 10, 0, 1, 2, 3, 4, 5, 6, 7, 8, 9, 10], [9])])
def apogeelaw19_VerdictEps.B4 : List Nat := [0, 0, 0, 7, 0, 0, 0, 0, 192, 511, 1023, 2047]
theorem apogeelaw19_VerdictEps.tab4 : rtab .any (opsOf Try.f5 4) = apogeelaw19_VerdictEps.T4 := by kernel_rfl
theorem apogeelaw19_VerdictEps.bits4 : waitsOk apogeelaw19_VerdictEps.T4.2 apogeelaw19_VerdictEps.B4 = true := by kernel_rfl
set_option maxHeartbeats 8000000 in
set_option maxRecDepth 100000 in
theorem apogeelaw19_VerdictEps.calls (k : Nat) (a0_0 : Int) (a0_1 : Int) (a0_2 : Int) (a0_3 : Int) (a0_4 : Int) (a0_5 : Int) (a0_6 : Int) (a0_7 : Int) (A1_0 : Option Addr) (c1_0 : Nat) (l1_0 : List (S28)) (a1_1 : Int) (a1_2 : Int) (a1_3 : Int) (a1_4 : Int) (a2 : Int) (a3 : Int) (r : Bool) (w : World) (hr1_0 : Kd.C k28 w A1_0 l1_0.length l1_0) (hc1_0 : l1_0.length ≤ c1_0) (h : apogeelaw19_VerdictEps.f k a0_0 a0_1 a0_2 a0_3 a0_4 a0_5 a0_6 a0_7 l1_0 a1_1 a1_2 a1_3 a1_4 a2 a3 = some r) :
  Calls Try.prog 5 #[.agg #[.int .i64 a0_0, .int .i64 a0_1, .int .i64 a0_2, .int .i64 a0_3, .int .i64 a0_4, .int .i64 a0_5, .int .i64 a0_6, .int .i64 a0_7], .agg #[.slice A1_0 l1_0.length c1_0, .int .i64 a1_1, .int .i64 a1_2, .int .i64 a1_3, .int .i64 a1_4], .int .i64 a2, .int .i64 a3] w fun e w' => e = .returned (.bool r) ∧ Below w.heap.size w w' := by
 have hu23 := Try.underlying23
 have hu42 := Try.underlying42
 have HR1_0 := bA hr1_0
 have HC1_0 := bA hc1_0
 clear hr1_0 hc1_0
 have HB := bA (Below.refl w.heap.size w)
 have H : ((apogeelaw19_awake.f k).bind fun t539 => (if t539 = true then (if (l1_0.length : Int) > 12 then (apogeelaw19_VerdictEps.j0 k a2 a3 true a0_0 a0_1 a0_2 a0_3 a0_4 a0_5 a0_6 a0_7 l1_0 a1_1 a1_2 a1_3 a1_4) else ((apogeeref13_RightPhase.f k l1_0 a1_1 a1_2 a1_3 a1_4).bind fun t540 => (apogeelaw19_VerdictEps.j0 k a2 a3 (!t540) a0_0 a0_1 a0_2 a0_3 a0_4 a0_5 a0_6 a0_7 l1_0 a1_1 a1_2 a1_3 a1_4))) else (apogeelaw19_VerdictEps.j0 k a2 a3 true a0_0 a0_1 a0_2 a0_3 a0_4 a0_5 a0_6 a0_7 l1_0 a1_1 a1_2 a1_3 a1_4))) = some r := h
 clear h
 have HC5 := bA H
 clear H
 go_enter Try.func5, Try.ntmps5
 go_upto_region 1 with (first | ((with_reducible refine gate_dst (N := 4) rfl ?_); (try (refine gate_guard (by rfl) ?_; dsimp only)); refine bE (N := 4) (cs := #[.int .i64 a0_0, .int .i64 a0_1, .int .i64 a0_2, .int .i64 a0_3, .int .i64 a0_4, .int .i64 a0_5, .int .i64 a0_6, .int .i64 a0_7]) (t := 23) ?_; intro gb537 hg w6 hbox hb; have n0_ := bA (bS hb); have n1_ := bA (hbox); have n2_ := bA (bZ hg); have n3_ := bA (bZ hg); clear HB; have HB := n0_; have BK537 := n1_; have GW537 := n2_; have GE537 := n3_; clear n0_ n1_ n2_ n3_; clear hb hbox hg) | ((with_reducible refine gate_dst (N := 5) rfl ?_); (try (refine gate_guard (by rfl) ?_; dsimp only)); refine bE (N := 5) (cs := #[.slice A1_0 l1_0.length c1_0, .int .i64 a1_1, .int .i64 a1_2, .int .i64 a1_3, .int .i64 a1_4]) (t := 42) ?_; intro gb538 hg w7 hbox hb; have n0_ := bA (bB BK537 hb); have n1_ := bA (bS hb); have n2_ := bA (hbox); have n3_ := bA (bZ hg); have n4_ := bA (bZ hg); have n5_ := bA (bL BK537 hg); have n6_ := bA (bG BK537 hg); clear BK537; clear HB; have BK537 := n0_; have HB := n1_; have BK538 := n2_; have GW538 := n3_; have GE538 := n4_; have NB537_538 := n5_; have NB538_537 := n6_; clear n0_ n1_ n2_ n3_ n4_ n5_ n6_; clear hb hbox hg))
 (try simp only [Act.put, List.setIfInBounds_toArray, List.set_cons_zero, List.set_cons_succ])
 go_cut [23] (fun v23 wc => ∃ (kq : Nat) (x23_4 : Bool), v23 = .bool x23_4 ∧ Aside0 (apogeelaw19_VerdictEps.j0 kq a2 a3 x23_4 a0_0 a0_1 a0_2 a0_3 a0_4 a0_5 a0_6 a0_7 l1_0 a1_1 a1_2 a1_3 a1_4 = some r) ∧ Aside0 (kq ≤ k) ∧ Aside0 (wc.heap[gb537]? = some (.cells #[.int .i64 a0_0, .int .i64 a0_1, .int .i64 a0_2, .int .i64 a0_3, .int .i64 a0_4, .int .i64 a0_5, .int .i64 a0_6, .int .i64 a0_7] 23 (0, 0))) ∧ Aside0 (wc.heap[gb538]? = some (.cells #[(.slice A1_0 l1_0.length c1_0), .int .i64 a1_1, .int .i64 a1_2, .int .i64 a1_3, .int .i64 a1_4] 42 (0, 0))) ∧ Aside0 (Below w.heap.size w wc))
 case first =>
  have H := HC5.out
  clear HC5
  replace H := Option.bind_eq_some_iff.mp H
  obtain ⟨t539, A80, H⟩ := H
  have A8 := bA A80
  clear A80
  by_cases c9 : t539 = true
  subst c9
  rw [if_pos rfl] at H
  by_cases c10 : (l1_0.length : Int) > 12
  rw [if_pos c10] at H
  have c10b0 : decide (12 < (l1_0.length : Int)) = true := decide_eq_true c10
  have c10b1 : decide (12 < l1_0.length) = true := decide_eq_true (by omega)
  clear c10
  (first | rw [c10b0] | (simp only [i64_w, i32_w]; rw [c10b0]) | skip)
  have H' := bA H
  clear H
  rotate_left
  rw [if_neg c10] at H
  have c10b0 : decide (12 < (l1_0.length : Int)) = false := decide_eq_false c10
  have c10b1 : decide (12 < l1_0.length) = false := decide_eq_false (by omega)
  clear c10
  (first | rw [c10b0] | (simp only [i64_w, i32_w]; rw [c10b0]) | skip)
  replace H := Option.bind_eq_some_iff.mp H
  obtain ⟨t540, A140, H⟩ := H
  have A14 := bA A140
  clear A140
  have H' := bA H
  clear H
  rotate_left
  replace c9 := Bool.eq_false_iff.mpr c9
  subst c9
  rw [if_neg bn] at H
  have H' := bA H
  clear H
  rotate_left
  all_goals go_wp2_with (first | ((first | ((with_reducible refine gate_callee (f := 14) rfl ?_); refine bC (some 11) Try.func14 #[] ?_) | go_at_call 14); (with_reducible refine (apogeelaw19_awake.calls k  true _ A8.out).mono ?_); rintro e wz0 ⟨rfl, hb⟩; (first | refine ⟨_, rfl, ?_⟩ | skip); replace BK537 := bA (bB BK537 hb); replace BK538 := bA (bB BK538 hb); replace HB := bA (bS hb); (try clear hb); have hz1 := NB538_537.out; have hz2 := NB537_538.out; obtain ⟨hz3, hz4, hz5, hz6, hz7, hz8, hz9, hz10, hz11, hz12⟩ := bc5 BK538) | (go_at_call 15; (with_reducible refine (apogeeref13_RightPhase.calls k _ _ l1_0 a1_1 a1_2 a1_3 a1_4 t540 _ ?side1 ?side2 A14.out).mono ?_); (case side1 => exact bQ HR1_0); (case side2 => exact HC1_0.out); rintro e wz1 ⟨rfl, hb⟩; replace BK537 := bA (bB BK537 hb); replace BK538 := bA (bB BK538 hb); replace HB := bA (bS hb); (try clear hb)) | ((first | ((with_reducible refine gate_callee (f := 14) rfl ?_); refine bC (some 11) Try.func14 #[] ?_) | go_at_call 14); (with_reducible refine (apogeelaw19_awake.calls k  false _ A8.out).mono ?_); rintro e wz0 ⟨rfl, hb⟩; (first | refine ⟨_, rfl, ?_⟩ | skip); replace BK537 := bA (bB BK537 hb); replace BK538 := bA (bB BK538 hb); replace HB := bA (bS hb); (try clear hb)))
  ·go_meet
   case rel => exact ⟨_, (true), bs, H', ⟨by first | omega | exact Nat.le_refl _⟩, ⟨by (with_reducible repeat (first | refine blk_drewN ?_ _ | refine blk_drew ?_ | refine blk_alloc ?_ _)); exact BK537.out⟩, ⟨by (with_reducible repeat (first | refine blk_drewN ?_ _ | refine blk_drew ?_ | refine blk_alloc ?_ _)); exact BK538.out⟩, ⟨bX⟩⟩
  ·go_meet
   case rel => exact ⟨_, (!t540), bs, H', ⟨by first | omega | exact Nat.le_refl _⟩, ⟨by (with_reducible repeat (first | refine blk_drewN ?_ _ | refine blk_drew ?_ | refine blk_alloc ?_ _)); exact BK537.out⟩, ⟨by (with_reducible repeat (first | refine blk_drewN ?_ _ | refine blk_drew ?_ | refine blk_alloc ?_ _)); exact BK538.out⟩, ⟨bX⟩⟩
  go_meet
  case rel => exact ⟨_, (true), bs, H', ⟨by first | omega | exact Nat.le_refl _⟩, ⟨by (with_reducible repeat (first | refine blk_drewN ?_ _ | refine blk_drew ?_ | refine blk_alloc ?_ _)); exact BK537.out⟩, ⟨by (with_reducible repeat (first | refine blk_drewN ?_ _ | refine blk_drew ?_ | refine blk_alloc ?_ _)); exact BK538.out⟩, ⟨bX⟩⟩
 clear HC5
 try clear c1
 try clear p2
 try clear c5
 try clear c9
 try clear c10
 try clear c10b0
 try clear c10b1
 try clear c12
 try clear c14
 try clear c16
 try clear hcz13_0
 try clear hcz13_1
 try clear hcz13_2
 try clear hcz13_3
 try clear hcz13_4
 try clear hcz17_0
 try clear hcz17_1
 try clear hcz17_2
 try clear hcz17_3
 try clear hcz17_4
 try clear hfz13_0
 try clear hfz13_1
 try clear hfz13_2
 try clear hfz13_3
 try clear hfz13_4
 try clear hfz17_0
 try clear hfz17_1
 try clear hfz17_2
 try clear hfz17_3
 try clear hfz17_4
 obtain ⟨kq, x23_4, rfl, HA, HJ4, BK537, BK538, HB⟩ := hcut
 cases kq with
 | zero => exact absurd HA.out (by simp [apogeelaw19_VerdictEps.j0])
 | succ kj4 =>
  have H := HA.out
  clear HA
  simp only [apogeelaw19_VerdictEps.j0] at H
  by_cases c20 : x23_4 = true
  ·subst c20
   rw [if_pos rfl] at H
   replace H := Option.bind_eq_some_iff.mp H
   obtain ⟨t541, A210, H⟩ := H
   have A21 := bA A210
   clear A210
   obtain rfl := Option.some.inj H
   go_wp2_with (first | ((first | ((with_reducible refine gate_callee (f := 14) rfl ?_); refine bC (some 24) Try.func14 #[] ?_) | go_at_call 14); (with_reducible refine (apogeelaw19_awake.calls kj4  t541 _ A21.out).mono ?_); rintro e w22 ⟨rfl, hb⟩; (first | refine ⟨_, rfl, ?_⟩ | skip); replace BK537 := bA (bB BK537 hb); replace BK538 := bA (bB BK538 hb); replace HB := bA (bS hb); (try clear hb)))
   go_ret
   exact bF
  replace c20 := Bool.eq_false_iff.mpr c20
  subst c20
  rw [if_neg bn] at H
  replace H := Option.bind_eq_some_iff.mp H
  obtain ⟨t542, A230, H⟩ := H
  have A23 := bA A230
  clear A230
  replace H := Option.bind_eq_some_iff.mp H
  obtain ⟨t543, A240, H⟩ := H
  have A24 := bA A240
  clear A240
  by_cases c25 : t542 = 4
  ·rw [if_pos c25] at H
   have c25b0 : (t542 == 4) = true := beq_iff_eq.mpr c25
   have c25b1 : (t542 != 4) = false := bne_eq_false_iff_eq.mpr c25
   clear c25
   by_cases c26 : t543 = 4
   rotate_left
   ·rw [if_neg c26] at H
    exact absurd H (by simp)
   rw [if_pos c26] at H
   have c26b0 : (t543 == 4) = true := beq_iff_eq.mpr c26
   have c26b1 : (t543 != 4) = false := bne_eq_false_iff_eq.mpr c26
   clear c26
   replace H := Option.bind_eq_some_iff.mp H
   obtain ⟨t544, A270, H⟩ := H
   have A27 := bA A270
   clear A270
   obtain rfl := Option.some.inj H
   try go_wp2
   replace BK537 := bA (blk_drew BK537.out)
   replace BK538 := bA (blk_drew BK538.out)
   replace HB := bA (below_drew1 HB.out)
   refine start_ (n := 12) (S := fun w' => w'.cell? ⟨gb537, 0, none⟩ = some (.int .i64 a0_0) ∧ w'.cell? ⟨gb537, 1, none⟩ = some (.int .i64 a0_1) ∧ w'.cell? ⟨gb537, 2, none⟩ = some (.int .i64 a0_2) ∧ w'.cell? ⟨gb537, 3, none⟩ = some (.int .i64 a0_3) ∧ w'.cell? ⟨gb537, 4, none⟩ = some (.int .i64 a0_4) ∧ w'.cell? ⟨gb537, 5, none⟩ = some (.int .i64 a0_5) ∧ w'.cell? ⟨gb537, 6, none⟩ = some (.int .i64 a0_6) ∧ w'.cell? ⟨gb537, 7, none⟩ = some (.int .i64 a0_7) ∧ w'.cell? ⟨gb538, 0, none⟩ = some (.slice A1_0 l1_0.length c1_0) ∧ w'.cell? ⟨gb538, 1, none⟩ = some (.int .i64 a1_1) ∧ w'.cell? ⟨gb538, 2, none⟩ = some (.int .i64 a1_2) ∧ w'.cell? ⟨gb538, 3, none⟩ = some (.int .i64 a1_3) ∧ w'.cell? ⟨gb538, 4, none⟩ = some (.int .i64 a1_4)) (ds := []) #[false,false,false,false,false,false,false,false,false,false,false,false] (by kernel_rfl) rfl rfl ⟨bq BK537 0, bq BK537 1, bq BK537 2, bq BK537 3, bq BK537 4, bq BK537 5, bq BK537 6, bq BK537 7, bq BK538 0, bq BK538 1, bq BK538 2, bq BK538 3, bq BK538 4⟩ (fun hHeld => ?_); refine with_tabW apogeelaw19_VerdictEps.tab4 apogeelaw19_VerdictEps.bits4 (fun HT_ HW_ => ?_)
   generalize wc.drew = w28 at BK537 BK538 HB hHeld ⊢
   refine bU (i := 2) (N := some 31) ?_
   refine bU (i := 6) (N := some 35) ?_
   refine bU (i := 7) (N := some 36) ?_
   refine bU (i := 8) (N := some 37) ?_
   refine bW (i := 0) (N := some 29) hHeld ?_
   refine bW (i := 1) (N := some 30) hHeld ?_
   refine bW (i := 4) (N := some 33) hHeld ?_
   refine bW (i := 5) (N := some 34) hHeld ?_
   refine one_ (i := 3) (N := some 32) #[true,true,true,true,true,true,true,true,true,false,false,false] rfl rfl (one_of HT_.out (by kernel_rfl)) (by decide) (fun K hK => ?_)
   refine goes_ Try.func16 (by kernel_rfl) rfl #[.agg #[.int .i64 a0_0, .int .i64 a0_1, .int .i64 a0_2, .int .i64 a0_3, .int .i64 a0_4, .int .i64 a0_5, .int .i64 a0_6, .int .i64 a0_7], .agg #[.slice A1_0 l1_0.length c1_0, .int .i64 a1_1, .int .i64 a1_2, .int .i64 a1_3, .int .i64 a1_4], .int .i64 (Go.bits .and .i64 a2 1023)] (by rfl) rfl rfl (by (try simp only [List.map_toArray, List.map_cons, List.map_nil]); first | done | rfl | (simp only [List.length_drop, List.length_take]; rfl)) ?_
   with_reducible refine (verdict_Of.calls kj4 a0_0 a0_1 a0_2 a0_3 a0_4 a0_5 a0_6 a0_7 _ _ l1_0 a1_1 a1_2 a1_3 a1_4 (Go.bits .and .i64 a2 1023) t542 _ ?side1 ?side2 A23.out).mono ?_
   (case side1 => exact bQ HR1_0)
   (case side2 => exact HC1_0.out)
   rintro e w29 ⟨rfl, hb⟩
   refine ⟨_, rfl, ?_⟩
   replace BK537 := bA (bB BK537 hb)
   replace BK538 := bA (bB BK538 hb)
   replace HB := bA (bS hb)
   (try clear hb)
   refine hK.out _ _ ⟨bq BK537 0, bq BK537 1, bq BK537 2, bq BK537 3, bq BK537 4, bq BK537 5, bq BK537 6, bq BK537 7, bq BK538 0, bq BK538 1, bq BK538 2, bq BK538 3, bq BK538 4⟩ (fun hHeld => ?_)
   clear hK K
   refine bI 32 ?_
   refine one_ (i := 9) (N := some 38) #[true,true,true,true,true,true,true,true,true,true,false,false] rfl rfl (one_of HT_.out (by kernel_rfl)) (by decide) (fun K hK => ?_)
   refine goes_ Try.func16 (by kernel_rfl) rfl #[.agg #[.int .i64 a0_0, .int .i64 a0_1, .int .i64 a0_2, .int .i64 a0_3, .int .i64 a0_4, .int .i64 a0_5, .int .i64 a0_6, .int .i64 a0_7], .agg #[.slice A1_0 l1_0.length c1_0, .int .i64 a1_1, .int .i64 a1_2, .int .i64 a1_3, .int .i64 a1_4], .int .i64 (wrap64 ((Go.bits .and .i64 a2 1023) + (Go.bits .and .i64 a3 1023)))] (by rfl) rfl rfl (by (try simp only [List.map_toArray, List.map_cons, List.map_nil]); first | done | rfl | (simp only [List.length_drop, List.length_take]; rfl)) ?_
   with_reducible refine (verdict_Of.calls kj4 a0_0 a0_1 a0_2 a0_3 a0_4 a0_5 a0_6 a0_7 _ _ l1_0 a1_1 a1_2 a1_3 a1_4 (wrap64 ((Go.bits .and .i64 a2 1023) + (Go.bits .and .i64 a3 1023))) t543 _ ?side1 ?side2 A24.out).mono ?_
   (case side1 => exact bQ HR1_0)
   (case side2 => exact HC1_0.out)
   rintro e w30 ⟨rfl, hb⟩
   refine ⟨_, rfl, ?_⟩
   replace BK537 := bA (bB BK537 hb)
   replace BK538 := bA (bB BK538 hb)
   replace HB := bA (bS hb)
   (try clear hb)
   refine hK.out _ _ ⟨bq BK537 0, bq BK537 1, bq BK537 2, bq BK537 3, bq BK537 4, bq BK537 5, bq BK537 6, bq BK537 7, bq BK538 0, bq BK538 1, bq BK538 2, bq BK538 3, bq BK538 4⟩ (fun hHeld => ?_)
   clear hK K
   refine bI 38 ?_
   refine bU (i := 10) (N := some 9) ?_
   refine bU (i := 11) (N := some 10) ?_
   refine done_ (done_of HT_.out (by kernel_rfl)) ?_
   have hnb31 := NB537_538.out
   have hnc31 := NB538_537.out
   obtain ⟨hcz32_0, hcz32_1, hcz32_2, hcz32_3, hcz32_4, hcz32_5, hcz32_6, hcz32_7, hfz32_0, hfz32_1, hfz32_2, hfz32_3, hfz32_4, hfz32_5, hfz32_6, hfz32_7⟩ := bc8 BK537
   obtain ⟨hcz33_0, hcz33_1, hcz33_2, hcz33_3, hcz33_4, hfz33_0, hfz33_1, hfz33_2, hfz33_3, hfz33_4⟩ := bc5 BK538
   try go_wp2_with (first | (go_at_call 17; (with_reducible refine (apogeeref18_May.calls a0_0 a0_1 a0_2 a0_3 a0_4 a0_5 a0_6 a0_7 a1_1 (Go.bits .and .i64 a2 1023) t544 _ A27.out).mono ?_); rintro e w34 ⟨rfl, hb⟩; replace BK537 := bA (bB BK537 hb); replace BK538 := bA (bB BK538 hb); replace HB := bA (bS hb); (try clear hb)))
   go_ret
   exact bF
  rw [if_neg c25] at H
  have c25b0 : (t542 == 4) = false := beq_eq_false_iff_ne.mpr c25
  have c25b1 : (t542 != 4) = true := bne_iff_ne.mpr c25
  by_cases c35 : t543 = t542
  ·rw [if_pos c35] at H
   have c35b0 : (t543 == t542) = true := beq_iff_eq.mpr c35
   have c35b1 : (t543 != t542) = false := bne_eq_false_iff_eq.mpr c35
   clear c35
   obtain rfl := Option.some.inj H
   try go_wp2
   replace BK537 := bA (blk_drew BK537.out)
   replace BK538 := bA (blk_drew BK538.out)
   replace HB := bA (below_drew1 HB.out)
   refine start_ (n := 12) (S := fun w' => w'.cell? ⟨gb537, 0, none⟩ = some (.int .i64 a0_0) ∧ w'.cell? ⟨gb537, 1, none⟩ = some (.int .i64 a0_1) ∧ w'.cell? ⟨gb537, 2, none⟩ = some (.int .i64 a0_2) ∧ w'.cell? ⟨gb537, 3, none⟩ = some (.int .i64 a0_3) ∧ w'.cell? ⟨gb537, 4, none⟩ = some (.int .i64 a0_4) ∧ w'.cell? ⟨gb537, 5, none⟩ = some (.int .i64 a0_5) ∧ w'.cell? ⟨gb537, 6, none⟩ = some (.int .i64 a0_6) ∧ w'.cell? ⟨gb537, 7, none⟩ = some (.int .i64 a0_7) ∧ w'.cell? ⟨gb538, 0, none⟩ = some (.slice A1_0 l1_0.length c1_0) ∧ w'.cell? ⟨gb538, 1, none⟩ = some (.int .i64 a1_1) ∧ w'.cell? ⟨gb538, 2, none⟩ = some (.int .i64 a1_2) ∧ w'.cell? ⟨gb538, 3, none⟩ = some (.int .i64 a1_3) ∧ w'.cell? ⟨gb538, 4, none⟩ = some (.int .i64 a1_4)) (ds := []) #[false,false,false,false,false,false,false,false,false,false,false,false] (by kernel_rfl) rfl rfl ⟨bq BK537 0, bq BK537 1, bq BK537 2, bq BK537 3, bq BK537 4, bq BK537 5, bq BK537 6, bq BK537 7, bq BK538 0, bq BK538 1, bq BK538 2, bq BK538 3, bq BK538 4⟩ (fun hHeld => ?_); refine with_tabW apogeelaw19_VerdictEps.tab4 apogeelaw19_VerdictEps.bits4 (fun HT_ HW_ => ?_)
   generalize wc.drew = w36 at BK537 BK538 HB hHeld ⊢
   refine bU (i := 2) (N := some 31) ?_
   refine bU (i := 6) (N := some 35) ?_
   refine bU (i := 7) (N := some 36) ?_
   refine bU (i := 8) (N := some 37) ?_
   refine bW (i := 0) (N := some 29) hHeld ?_
   refine bW (i := 1) (N := some 30) hHeld ?_
   refine bW (i := 4) (N := some 33) hHeld ?_
   refine bW (i := 5) (N := some 34) hHeld ?_
   refine one_ (i := 3) (N := some 32) #[true,true,true,true,true,true,true,true,true,false,false,false] rfl rfl (one_of HT_.out (by kernel_rfl)) (by decide) (fun K hK => ?_)
   refine goes_ Try.func16 (by kernel_rfl) rfl #[.agg #[.int .i64 a0_0, .int .i64 a0_1, .int .i64 a0_2, .int .i64 a0_3, .int .i64 a0_4, .int .i64 a0_5, .int .i64 a0_6, .int .i64 a0_7], .agg #[.slice A1_0 l1_0.length c1_0, .int .i64 a1_1, .int .i64 a1_2, .int .i64 a1_3, .int .i64 a1_4], .int .i64 (Go.bits .and .i64 a2 1023)] (by rfl) rfl rfl (by (try simp only [List.map_toArray, List.map_cons, List.map_nil]); first | done | rfl | (simp only [List.length_drop, List.length_take]; rfl)) ?_
   with_reducible refine (verdict_Of.calls kj4 a0_0 a0_1 a0_2 a0_3 a0_4 a0_5 a0_6 a0_7 _ _ l1_0 a1_1 a1_2 a1_3 a1_4 (Go.bits .and .i64 a2 1023) t542 _ ?side1 ?side2 A23.out).mono ?_
   (case side1 => exact bQ HR1_0)
   (case side2 => exact HC1_0.out)
   rintro e w37 ⟨rfl, hb⟩
   refine ⟨_, rfl, ?_⟩
   replace BK537 := bA (bB BK537 hb)
   replace BK538 := bA (bB BK538 hb)
   replace HB := bA (bS hb)
   (try clear hb)
   refine hK.out _ _ ⟨bq BK537 0, bq BK537 1, bq BK537 2, bq BK537 3, bq BK537 4, bq BK537 5, bq BK537 6, bq BK537 7, bq BK538 0, bq BK538 1, bq BK538 2, bq BK538 3, bq BK538 4⟩ (fun hHeld => ?_)
   clear hK K
   refine bI 32 ?_
   refine one_ (i := 9) (N := some 38) #[true,true,true,true,true,true,true,true,true,true,false,false] rfl rfl (one_of HT_.out (by kernel_rfl)) (by decide) (fun K hK => ?_)
   refine goes_ Try.func16 (by kernel_rfl) rfl #[.agg #[.int .i64 a0_0, .int .i64 a0_1, .int .i64 a0_2, .int .i64 a0_3, .int .i64 a0_4, .int .i64 a0_5, .int .i64 a0_6, .int .i64 a0_7], .agg #[.slice A1_0 l1_0.length c1_0, .int .i64 a1_1, .int .i64 a1_2, .int .i64 a1_3, .int .i64 a1_4], .int .i64 (wrap64 ((Go.bits .and .i64 a2 1023) + (Go.bits .and .i64 a3 1023)))] (by rfl) rfl rfl (by (try simp only [List.map_toArray, List.map_cons, List.map_nil]); first | done | rfl | (simp only [List.length_drop, List.length_take]; rfl)) ?_
   with_reducible refine (verdict_Of.calls kj4 a0_0 a0_1 a0_2 a0_3 a0_4 a0_5 a0_6 a0_7 _ _ l1_0 a1_1 a1_2 a1_3 a1_4 (wrap64 ((Go.bits .and .i64 a2 1023) + (Go.bits .and .i64 a3 1023))) t543 _ ?side1 ?side2 A24.out).mono ?_
   (case side1 => exact bQ HR1_0)
   (case side2 => exact HC1_0.out)
   rintro e w38 ⟨rfl, hb⟩
   refine ⟨_, rfl, ?_⟩
   replace BK537 := bA (bB BK537 hb)
   replace BK538 := bA (bB BK538 hb)
   replace HB := bA (bS hb)
   (try clear hb)
   refine hK.out _ _ ⟨bq BK537 0, bq BK537 1, bq BK537 2, bq BK537 3, bq BK537 4, bq BK537 5, bq BK537 6, bq BK537 7, bq BK538 0, bq BK538 1, bq BK538 2, bq BK538 3, bq BK538 4⟩ (fun hHeld => ?_)
   clear hK K
   refine bI 38 ?_
   refine bU (i := 10) (N := some 9) ?_
   refine bU (i := 11) (N := some 10) ?_
   refine done_ (done_of HT_.out (by kernel_rfl)) ?_
   try go_wp2
   go_ret
   exact bF
  rw [if_neg c35] at H
  have c35b0 : (t543 == t542) = false := beq_eq_false_iff_ne.mpr c35
  have c35b1 : (t543 != t542) = true := bne_iff_ne.mpr c35
  by_cases c39 : t543 = 4
  ·rw [if_pos c39] at H
   have c39b0 : (t543 == 4) = true := beq_iff_eq.mpr c39
   have c39b1 : (t543 != 4) = false := bne_eq_false_iff_eq.mpr c39
   clear c39
   obtain rfl := Option.some.inj H
   try go_wp2
   replace BK537 := bA (blk_drew BK537.out)
   replace BK538 := bA (blk_drew BK538.out)
   replace HB := bA (below_drew1 HB.out)
   refine start_ (n := 12) (S := fun w' => w'.cell? ⟨gb537, 0, none⟩ = some (.int .i64 a0_0) ∧ w'.cell? ⟨gb537, 1, none⟩ = some (.int .i64 a0_1) ∧ w'.cell? ⟨gb537, 2, none⟩ = some (.int .i64 a0_2) ∧ w'.cell? ⟨gb537, 3, none⟩ = some (.int .i64 a0_3) ∧ w'.cell? ⟨gb537, 4, none⟩ = some (.int .i64 a0_4) ∧ w'.cell? ⟨gb537, 5, none⟩ = some (.int .i64 a0_5) ∧ w'.cell? ⟨gb537, 6, none⟩ = some (.int .i64 a0_6) ∧ w'.cell? ⟨gb537, 7, none⟩ = some (.int .i64 a0_7) ∧ w'.cell? ⟨gb538, 0, none⟩ = some (.slice A1_0 l1_0.length c1_0) ∧ w'.cell? ⟨gb538, 1, none⟩ = some (.int .i64 a1_1) ∧ w'.cell? ⟨gb538, 2, none⟩ = some (.int .i64 a1_2) ∧ w'.cell? ⟨gb538, 3, none⟩ = some (.int .i64 a1_3) ∧ w'.cell? ⟨gb538, 4, none⟩ = some (.int .i64 a1_4)) (ds := []) #[false,false,false,false,false,false,false,false,false,false,false,false] (by kernel_rfl) rfl rfl ⟨bq BK537 0, bq BK537 1, bq BK537 2, bq BK537 3, bq BK537 4, bq BK537 5, bq BK537 6, bq BK537 7, bq BK538 0, bq BK538 1, bq BK538 2, bq BK538 3, bq BK538 4⟩ (fun hHeld => ?_); refine with_tabW apogeelaw19_VerdictEps.tab4 apogeelaw19_VerdictEps.bits4 (fun HT_ HW_ => ?_)
   generalize wc.drew = w40 at BK537 BK538 HB hHeld ⊢
   refine bU (i := 2) (N := some 31) ?_
   refine bU (i := 6) (N := some 35) ?_
   refine bU (i := 7) (N := some 36) ?_
   refine bU (i := 8) (N := some 37) ?_
   refine bW (i := 0) (N := some 29) hHeld ?_
   refine bW (i := 1) (N := some 30) hHeld ?_
   refine bW (i := 4) (N := some 33) hHeld ?_
   refine bW (i := 5) (N := some 34) hHeld ?_
   refine one_ (i := 3) (N := some 32) #[true,true,true,true,true,true,true,true,true,false,false,false] rfl rfl (one_of HT_.out (by kernel_rfl)) (by decide) (fun K hK => ?_)
   refine goes_ Try.func16 (by kernel_rfl) rfl #[.agg #[.int .i64 a0_0, .int .i64 a0_1, .int .i64 a0_2, .int .i64 a0_3, .int .i64 a0_4, .int .i64 a0_5, .int .i64 a0_6, .int .i64 a0_7], .agg #[.slice A1_0 l1_0.length c1_0, .int .i64 a1_1, .int .i64 a1_2, .int .i64 a1_3, .int .i64 a1_4], .int .i64 (Go.bits .and .i64 a2 1023)] (by rfl) rfl rfl (by (try simp only [List.map_toArray, List.map_cons, List.map_nil]); first | done | rfl | (simp only [List.length_drop, List.length_take]; rfl)) ?_
   with_reducible refine (verdict_Of.calls kj4 a0_0 a0_1 a0_2 a0_3 a0_4 a0_5 a0_6 a0_7 _ _ l1_0 a1_1 a1_2 a1_3 a1_4 (Go.bits .and .i64 a2 1023) t542 _ ?side1 ?side2 A23.out).mono ?_
   (case side1 => exact bQ HR1_0)
   (case side2 => exact HC1_0.out)
   rintro e w41 ⟨rfl, hb⟩
   refine ⟨_, rfl, ?_⟩
   replace BK537 := bA (bB BK537 hb)
   replace BK538 := bA (bB BK538 hb)
   replace HB := bA (bS hb)
   (try clear hb)
   refine hK.out _ _ ⟨bq BK537 0, bq BK537 1, bq BK537 2, bq BK537 3, bq BK537 4, bq BK537 5, bq BK537 6, bq BK537 7, bq BK538 0, bq BK538 1, bq BK538 2, bq BK538 3, bq BK538 4⟩ (fun hHeld => ?_)
   clear hK K
   refine bI 32 ?_
   refine one_ (i := 9) (N := some 38) #[true,true,true,true,true,true,true,true,true,true,false,false] rfl rfl (one_of HT_.out (by kernel_rfl)) (by decide) (fun K hK => ?_)
   refine goes_ Try.func16 (by kernel_rfl) rfl #[.agg #[.int .i64 a0_0, .int .i64 a0_1, .int .i64 a0_2, .int .i64 a0_3, .int .i64 a0_4, .int .i64 a0_5, .int .i64 a0_6, .int .i64 a0_7], .agg #[.slice A1_0 l1_0.length c1_0, .int .i64 a1_1, .int .i64 a1_2, .int .i64 a1_3, .int .i64 a1_4], .int .i64 (wrap64 ((Go.bits .and .i64 a2 1023) + (Go.bits .and .i64 a3 1023)))] (by rfl) rfl rfl (by (try simp only [List.map_toArray, List.map_cons, List.map_nil]); first | done | rfl | (simp only [List.length_drop, List.length_take]; rfl)) ?_
   with_reducible refine (verdict_Of.calls kj4 a0_0 a0_1 a0_2 a0_3 a0_4 a0_5 a0_6 a0_7 _ _ l1_0 a1_1 a1_2 a1_3 a1_4 (wrap64 ((Go.bits .and .i64 a2 1023) + (Go.bits .and .i64 a3 1023))) t543 _ ?side1 ?side2 A24.out).mono ?_
   (case side1 => exact bQ HR1_0)
   (case side2 => exact HC1_0.out)
   rintro e w42 ⟨rfl, hb⟩
   refine ⟨_, rfl, ?_⟩
   replace BK537 := bA (bB BK537 hb)
   replace BK538 := bA (bB BK538 hb)
   replace HB := bA (bS hb)
   (try clear hb)
   refine hK.out _ _ ⟨bq BK537 0, bq BK537 1, bq BK537 2, bq BK537 3, bq BK537 4, bq BK537 5, bq BK537 6, bq BK537 7, bq BK538 0, bq BK538 1, bq BK538 2, bq BK538 3, bq BK538 4⟩ (fun hHeld => ?_)
   clear hK K
   refine bI 38 ?_
   refine bU (i := 10) (N := some 9) ?_
   refine bU (i := 11) (N := some 10) ?_
   refine done_ (done_of HT_.out (by kernel_rfl)) ?_
   try go_wp2
   go_ret
   exact bF
  rw [if_neg c39] at H
  have c39b0 : (t543 == 4) = false := beq_eq_false_iff_ne.mpr c39
  have c39b1 : (t543 != 4) = true := bne_iff_ne.mpr c39
  obtain rfl := Option.some.inj H
  try go_wp2
  replace BK537 := bA (blk_drew BK537.out)
  replace BK538 := bA (blk_drew BK538.out)
  replace HB := bA (below_drew1 HB.out)
  refine start_ (n := 12) (S := fun w' => w'.cell? ⟨gb537, 0, none⟩ = some (.int .i64 a0_0) ∧ w'.cell? ⟨gb537, 1, none⟩ = some (.int .i64 a0_1) ∧ w'.cell? ⟨gb537, 2, none⟩ = some (.int .i64 a0_2) ∧ w'.cell? ⟨gb537, 3, none⟩ = some (.int .i64 a0_3) ∧ w'.cell? ⟨gb537, 4, none⟩ = some (.int .i64 a0_4) ∧ w'.cell? ⟨gb537, 5, none⟩ = some (.int .i64 a0_5) ∧ w'.cell? ⟨gb537, 6, none⟩ = some (.int .i64 a0_6) ∧ w'.cell? ⟨gb537, 7, none⟩ = some (.int .i64 a0_7) ∧ w'.cell? ⟨gb538, 0, none⟩ = some (.slice A1_0 l1_0.length c1_0) ∧ w'.cell? ⟨gb538, 1, none⟩ = some (.int .i64 a1_1) ∧ w'.cell? ⟨gb538, 2, none⟩ = some (.int .i64 a1_2) ∧ w'.cell? ⟨gb538, 3, none⟩ = some (.int .i64 a1_3) ∧ w'.cell? ⟨gb538, 4, none⟩ = some (.int .i64 a1_4)) (ds := []) #[false,false,false,false,false,false,false,false,false,false,false,false] (by kernel_rfl) rfl rfl ⟨bq BK537 0, bq BK537 1, bq BK537 2, bq BK537 3, bq BK537 4, bq BK537 5, bq BK537 6, bq BK537 7, bq BK538 0, bq BK538 1, bq BK538 2, bq BK538 3, bq BK538 4⟩ (fun hHeld => ?_); refine with_tabW apogeelaw19_VerdictEps.tab4 apogeelaw19_VerdictEps.bits4 (fun HT_ HW_ => ?_)
  generalize wc.drew = w43 at BK537 BK538 HB hHeld ⊢
  refine bU (i := 2) (N := some 31) ?_
  refine bU (i := 6) (N := some 35) ?_
  refine bU (i := 7) (N := some 36) ?_
  refine bU (i := 8) (N := some 37) ?_
  refine bW (i := 0) (N := some 29) hHeld ?_
  refine bW (i := 1) (N := some 30) hHeld ?_
  refine bW (i := 4) (N := some 33) hHeld ?_
  refine bW (i := 5) (N := some 34) hHeld ?_
  refine one_ (i := 3) (N := some 32) #[true,true,true,true,true,true,true,true,true,false,false,false] rfl rfl (one_of HT_.out (by kernel_rfl)) (by decide) (fun K hK => ?_)
  refine goes_ Try.func16 (by kernel_rfl) rfl #[.agg #[.int .i64 a0_0, .int .i64 a0_1, .int .i64 a0_2, .int .i64 a0_3, .int .i64 a0_4, .int .i64 a0_5, .int .i64 a0_6, .int .i64 a0_7], .agg #[.slice A1_0 l1_0.length c1_0, .int .i64 a1_1, .int .i64 a1_2, .int .i64 a1_3, .int .i64 a1_4], .int .i64 (Go.bits .and .i64 a2 1023)] (by rfl) rfl rfl (by (try simp only [List.map_toArray, List.map_cons, List.map_nil]); first | done | rfl | (simp only [List.length_drop, List.length_take]; rfl)) ?_
  with_reducible refine (verdict_Of.calls kj4 a0_0 a0_1 a0_2 a0_3 a0_4 a0_5 a0_6 a0_7 _ _ l1_0 a1_1 a1_2 a1_3 a1_4 (Go.bits .and .i64 a2 1023) t542 _ ?side1 ?side2 A23.out).mono ?_
  (case side1 => exact bQ HR1_0)
  (case side2 => exact HC1_0.out)
  rintro e w44 ⟨rfl, hb⟩
  refine ⟨_, rfl, ?_⟩
  replace BK537 := bA (bB BK537 hb)
  replace BK538 := bA (bB BK538 hb)
  replace HB := bA (bS hb)
  (try clear hb)
  refine hK.out _ _ ⟨bq BK537 0, bq BK537 1, bq BK537 2, bq BK537 3, bq BK537 4, bq BK537 5, bq BK537 6, bq BK537 7, bq BK538 0, bq BK538 1, bq BK538 2, bq BK538 3, bq BK538 4⟩ (fun hHeld => ?_)
  clear hK K
  refine bI 32 ?_
  refine one_ (i := 9) (N := some 38) #[true,true,true,true,true,true,true,true,true,true,false,false] rfl rfl (one_of HT_.out (by kernel_rfl)) (by decide) (fun K hK => ?_)
  refine goes_ Try.func16 (by kernel_rfl) rfl #[.agg #[.int .i64 a0_0, .int .i64 a0_1, .int .i64 a0_2, .int .i64 a0_3, .int .i64 a0_4, .int .i64 a0_5, .int .i64 a0_6, .int .i64 a0_7], .agg #[.slice A1_0 l1_0.length c1_0, .int .i64 a1_1, .int .i64 a1_2, .int .i64 a1_3, .int .i64 a1_4], .int .i64 (wrap64 ((Go.bits .and .i64 a2 1023) + (Go.bits .and .i64 a3 1023)))] (by rfl) rfl rfl (by (try simp only [List.map_toArray, List.map_cons, List.map_nil]); first | done | rfl | (simp only [List.length_drop, List.length_take]; rfl)) ?_
  with_reducible refine (verdict_Of.calls kj4 a0_0 a0_1 a0_2 a0_3 a0_4 a0_5 a0_6 a0_7 _ _ l1_0 a1_1 a1_2 a1_3 a1_4 (wrap64 ((Go.bits .and .i64 a2 1023) + (Go.bits .and .i64 a3 1023))) t543 _ ?side1 ?side2 A24.out).mono ?_
  (case side1 => exact bQ HR1_0)
  (case side2 => exact HC1_0.out)
  rintro e w45 ⟨rfl, hb⟩
  refine ⟨_, rfl, ?_⟩
  replace BK537 := bA (bB BK537 hb)
  replace BK538 := bA (bB BK538 hb)
  replace HB := bA (bS hb)
  (try clear hb)
  refine hK.out _ _ ⟨bq BK537 0, bq BK537 1, bq BK537 2, bq BK537 3, bq BK537 4, bq BK537 5, bq BK537 6, bq BK537 7, bq BK538 0, bq BK538 1, bq BK538 2, bq BK538 3, bq BK538 4⟩ (fun hHeld => ?_)
  clear hK K
  refine bI 38 ?_
  refine bU (i := 10) (N := some 9) ?_
  refine bU (i := 11) (N := some 10) ?_
  refine done_ (done_of HT_.out (by kernel_rfl)) ?_
  try go_wp2
  go_ret
  exact bF
end Go.Proofs.Ytfeekdoakoabeaa.G
