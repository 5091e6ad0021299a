-- Written by a program of this session out of the translation; Lean checks it.
import Derived.Test.YtjmibjmlihmglaaGx0
import Derived.Test.YtjmibjmlihmglaaGx8
import Derived.Test.YtjmibjmlihmglaaGx12
import Derived.Test.YtjmibjmlihmglaaGx13
import Derived.Test.YtjmibjmlihmglaaGx14
import Derived.Test.YtjmibjmlihmglaaGx15
import Derived.Test.YtjmibjmlihmglaaGx23
namespace Go.Proofs.Ytjmibjmlihmglaa.G
open Go.RowKit Go.Proofs.YtjmibjmlihmglaaW.PrintWords Go.Proofs.YtjmibjmlihmglaaW.PrintLast Go.Proofs.YtjmibjmlihmglaaW.PrintMore
attribute [local go_sem] max2_int min2_int max_two min_two max_three min_three max_four min_four   -- for this text's walks alone
set_option linter.unusedVariables false
set_option linter.unusedSimpArgs false

/-! ### apogeelaw12_BoxPoint: function 13 -/
def apogeelaw12_BoxPoint.j0 : Nat → List (S41) → Bool → Int → Int → Option (Bool)
 | 0, _, _, _, _ => none
 | k + 1, x0, x21, x603000, x603001 => if x21 = true then ((apogeelaw12_awake.f k).bind fun t606 => (some t606)) else ((box_Relate.f k x603000 x603001 x603000 x603001 x0).bind fun t607 => ((poly_Side.f k x0 x603000 x603001).bind fun t608 => (if t607 = t608 then ((box_Of.f x603000 x603001 0).bind fun bt609 => ((box_Relate.f k bt609.1 bt609.2.1 bt609.2.2.1 bt609.2.2.2 x0).bind fun t613 => ((poly_Side.f k x0 x603000 x603001).bind fun t614 => (some (t613 == t614))))) else (none))))
def apogeelaw12_BoxPoint.f (k : Nat) (l0 : List (S41)) (a1_0 : Int) (a1_1 : Int) : Option (Bool) := (apogeelaw12_awake.f k).bind fun t603 => (if t603 = true then (if (l0.length : Int) > 12 then (apogeelaw12_BoxPoint.j0 k l0 true a1_0 a1_1) else ((apogeeref11_Right.f k l0).bind fun t604 => (if t604 = true then ((apogeeref10_Right.f a1_0 a1_1).bind fun t605 => (apogeelaw12_BoxPoint.j0 k l0 (!t605) a1_0 a1_1)) else (apogeelaw12_BoxPoint.j0 k l0 true a1_0 a1_1)))) else (apogeelaw12_BoxPoint.j0 k l0 true a1_0 a1_1))
theorem apogeelaw12_BoxPoint.mono_l : ∀ k, (∀ y0 y1 y2 y3, LeO (apogeelaw12_BoxPoint.j0 k y0 y1 y2 y3) (apogeelaw12_BoxPoint.j0 (k + 1) y0 y1 y2 y3))
 | 0 => fun _ _ _ _ r h => by simp [apogeelaw12_BoxPoint.j0] at h
 | k + 1 => by
  have ih0 := apogeelaw12_BoxPoint.mono_l k
  ·intro y0 y1 y2 y3
   unfold apogeelaw12_BoxPoint.j0
   repeat' first
   | (with_reducible exact ih0 _ _ _ _)
   | (with_reducible exact apogeelaw12_awake.mono _)
   | (with_reducible exact apogeeref11_Right.mono _ _)
   | (with_reducible exact box_Relate.mono _ _ _ _ _ _)
   | (with_reducible exact poly_Side.mono _ _ _ _)
   | (with_reducible exact LeO.refl _)
   | (with_reducible exact LeO.none _)
   | (with_reducible refine LeO.ite ?_ ?_)
   | (with_reducible refine LeO.bind ?_ (fun _ => ?_))
   | exact ih0 _ _ _ _
   | exact apogeelaw12_awake.mono _
   | exact apogeeref11_Right.mono _ _
   | exact box_Relate.mono _ _ _ _ _ _
   | exact poly_Side.mono _ _ _ _
   | exact LeO.none _
   | refine LeO.ite ?_ ?_
   | refine LeO.bind ?_ (fun _ => ?_)
theorem apogeelaw12_BoxPoint.mono : ∀ a0 a1 a2 k, LeO (apogeelaw12_BoxPoint.f k a0 a1 a2) (apogeelaw12_BoxPoint.f (k + 1) a0 a1 a2) := by
 intro a0 a1 a2 k
 have ih0 := apogeelaw12_BoxPoint.mono_l k
 unfold apogeelaw12_BoxPoint.f
 repeat' first
   | (with_reducible exact ih0 _ _ _ _)
   | (with_reducible exact apogeelaw12_awake.mono _)
   | (with_reducible exact apogeeref11_Right.mono _ _)
   | (with_reducible exact box_Relate.mono _ _ _ _ _ _)
   | (with_reducible exact poly_Side.mono _ _ _ _)
   | (with_reducible exact LeO.refl _)
   | (with_reducible exact LeO.none _)
   | (with_reducible refine LeO.ite ?_ ?_)
   | (with_reducible refine LeO.bind ?_ (fun _ => ?_))
   | exact ih0 _ _ _ _
   | exact apogeelaw12_awake.mono _
   | exact apogeeref11_Right.mono _ _
   | exact box_Relate.mono _ _ _ _ _ _
   | exact poly_Side.mono _ _ _ _
   | exact LeO.none _
   | refine LeO.ite ?_ ?_
   | refine LeO.bind ?_ (fun _ => ?_)
def apogeelaw12_BoxPoint.T3 : Bool × List (List Nat × List Nat) := (true, [([], []), ([], []), ([0, 1], [0, 1]), ([], []), ([2, 3], [2, 3]), ([], []), ([], []), ([5, 6, 4], [5, 6]), ([4, 7], [4, 7]), ([8, 7], [8]), ([9], [9]), ([10, 9, 9], [9, 10]), ([9], [9]), ([11, 12, 11, 9], [9, 11, 12]), ([9], [9]), ([9], [9]), ([14, 15, 13, 9], [9, 14, 15]), ([13, 16, 9], [9, 13, 16]), ([9, 17], [9, 17]), ([18, 16, 0, 1, 2, 3, 4, 5, 6, 7, 8, 9, 10, 11, 12, 13, 14, 15, 16, 17, 18], [18])])
def apogeelaw12_BoxPoint.B3 : List Nat := [0, 0, 3, 0, 15, 0, 0, 127, 255, 511, 1023, 2047, 1023, 8191, 1023, 1023, 65535, 131071, 262143, 524287]
theorem apogeelaw12_BoxPoint.tab3 : rtab .any (opsOf Try.f13 3) = apogeelaw12_BoxPoint.T3 := by kernel_rfl
theorem apogeelaw12_BoxPoint.bits3 : waitsOk apogeelaw12_BoxPoint.T3.2 apogeelaw12_BoxPoint.B3 = true := by kernel_rfl
set_option maxHeartbeats 8000000 in
set_option maxRecDepth 100000 in
theorem apogeelaw12_BoxPoint.calls (k : Nat) (A0 : Option Addr) (c0 : Nat) (l0 : List (S41)) (a1_0 : Int) (a1_1 : Int) (r : Bool) (w : World) (hr0 : Kd.C k41 w A0 l0.length l0) (hc0 : l0.length ≤ c0) (h : apogeelaw12_BoxPoint.f k l0 a1_0 a1_1 = some r) :
  Calls Try.prog 13 #[.slice A0 l0.length c0, .agg #[.int .i64 a1_0, .int .i64 a1_1]] w fun e w' => e = .returned (.bool r) ∧ Below w.heap.size w w' := by
 have hu41 := Try.underlying41
 have hu44 := Try.underlying44
 have HR0 := bA hr0
 have HC0 := bA hc0
 clear hr0 hc0
 have HB := bA (Below.refl w.heap.size w)
 have H : ((apogeelaw12_awake.f k).bind fun t603 => (if t603 = true then (if (l0.length : Int) > 12 then (apogeelaw12_BoxPoint.j0 k l0 true a1_0 a1_1) else ((apogeeref11_Right.f k l0).bind fun t604 => (if t604 = true then ((apogeeref10_Right.f a1_0 a1_1).bind fun t605 => (apogeelaw12_BoxPoint.j0 k l0 (!t605) a1_0 a1_1)) else (apogeelaw12_BoxPoint.j0 k l0 true a1_0 a1_1)))) else (apogeelaw12_BoxPoint.j0 k l0 true a1_0 a1_1))) = some r := h
 clear h
 have HC3 := bA H
 clear H
 go_enter Try.func13, Try.ntmps13
 go_upto_region 1 with (first | ((with_reducible refine gate_dst (N := 3) rfl ?_); (try (refine gate_guard (by rfl) ?_; dsimp only)); refine bE (N := 3) (cs := #[.int .i64 a1_0, .int .i64 a1_1]) (t := 41) ?_; intro gb602 hg w4 hbox hb; have n0_ := bA (bS hb); have n1_ := bA (hbox); have n2_ := bA (bZ hg); have n3_ := bA (bZ hg); clear HB; have HB := n0_; have BK602 := n1_; have GW602 := n2_; have GE602 := n3_; clear n0_ n1_ n2_ n3_; clear hb hbox hg))
 (try simp only [Act.put, List.setIfInBounds_toArray, List.set_cons_zero, List.set_cons_succ])
 go_cut [21] (fun v21 wc => ∃ (kq : Nat) (x21_2 : Bool), v21 = .bool x21_2 ∧ Aside0 (apogeelaw12_BoxPoint.j0 kq l0 x21_2 a1_0 a1_1 = some r) ∧ Aside0 (kq ≤ k) ∧ Aside0 (wc.heap[gb602]? = some (.cells #[.int .i64 a1_0, .int .i64 a1_1] 41 (0, 0))) ∧ Aside0 (Below w.heap.size w wc))
 case first =>
  have H := HC3.out
  clear HC3
  replace H := Option.bind_eq_some_iff.mp H
  obtain ⟨t603, A50, H⟩ := H
  have A5 := bA A50
  clear A50
  by_cases c6 : t603 = true
  subst c6
  rw [if_pos rfl] at H
  by_cases c7 : (l0.length : Int) > 12
  rw [if_pos c7] at H
  have c7b0 : decide (12 < (l0.length : Int)) = true := decide_eq_true c7
  have c7b1 : decide (12 < l0.length) = true := decide_eq_true (by omega)
  clear c7
  (first | rw [c7b0] | (simp only [i64_w, i32_w]; rw [c7b0]) | skip)
  have H' := bA H
  clear H
  rotate_left
  rw [if_neg c7] at H
  have c7b0 : decide (12 < (l0.length : Int)) = false := decide_eq_false c7
  have c7b1 : decide (12 < l0.length) = false := decide_eq_false (by omega)
  clear c7
  (first | rw [c7b0] | (simp only [i64_w, i32_w]; rw [c7b0]) | skip)
  replace H := Option.bind_eq_some_iff.mp H
  obtain ⟨t604, A90, H⟩ := H
  have A9 := bA A90
  clear A90
  by_cases c10 : t604 = true
  subst c10
  rw [if_pos rfl] at H
  replace H := Option.bind_eq_some_iff.mp H
  obtain ⟨t605, A110, H⟩ := H
  have A11 := bA A110
  clear A110
  have H' := bA H
  clear H
  rotate_left
  replace c10 := Bool.eq_false_iff.mpr c10
  subst c10
  rw [if_neg bn] at H
  have H' := bA H
  clear H
  rotate_left
  replace c6 := Bool.eq_false_iff.mpr c6
  subst c6
  rw [if_neg bn] at H
  have H' := bA H
  clear H
  rotate_left
  all_goals go_wp2_with (first | ((first | ((with_reducible refine gate_callee (f := 44) rfl ?_); refine bC (some 5) Try.func44 #[] ?_) | go_at_call 44); (with_reducible refine (apogeelaw12_awake.calls k  true _ A5.out).mono ?_); rintro e wz0 ⟨rfl, hb⟩; (first | refine ⟨_, rfl, ?_⟩ | skip); replace BK602 := bA (bB BK602 hb); replace HB := bA (bS hb); (try clear hb)) | (go_at_call 28; (with_reducible refine (apogeeref11_Right.calls k _ _ l0 true _ ?side1 ?side2 A9.out).mono ?_); (case side1 => exact bQ HR0); (case side2 => exact HC0.out); rintro e wz1 ⟨rfl, hb⟩; replace BK602 := bA (bB BK602 hb); replace HB := bA (bS hb); (try clear hb); obtain ⟨hz1, hz2, hz3, hz4⟩ := bc2 BK602) | (go_at_call 40; (with_reducible refine (apogeeref10_Right.calls a1_0 a1_1 t605 _ A11.out).mono ?_); rintro e wz2 ⟨rfl, hb⟩; replace BK602 := bA (bB BK602 hb); replace HB := bA (bS hb); (try clear hb)) | (go_at_call 28; (with_reducible refine (apogeeref11_Right.calls k _ _ l0 false _ ?side1 ?side2 A9.out).mono ?_); (case side1 => exact bQ HR0); (case side2 => exact HC0.out); rintro e wz1 ⟨rfl, hb⟩; replace BK602 := bA (bB BK602 hb); replace HB := bA (bS hb); (try clear hb)) | ((first | ((with_reducible refine gate_callee (f := 44) rfl ?_); refine bC (some 5) Try.func44 #[] ?_) | go_at_call 44); (with_reducible refine (apogeelaw12_awake.calls k  false _ A5.out).mono ?_); rintro e wz0 ⟨rfl, hb⟩; (first | refine ⟨_, rfl, ?_⟩ | skip); replace BK602 := bA (bB BK602 hb); replace HB := bA (bS hb); (try clear hb)))
  ·go_meet
   case rel => exact ⟨_, (true), bs, H', ⟨by first | omega | exact Nat.le_refl _⟩, ⟨by (with_reducible repeat (first | refine blk_drewN ?_ _ | refine blk_drew ?_ | refine blk_alloc ?_ _)); exact BK602.out⟩, ⟨bX⟩⟩
  ·go_meet
   case rel => exact ⟨_, (!t605), bs, H', ⟨by first | omega | exact Nat.le_refl _⟩, ⟨by (with_reducible repeat (first | refine blk_drewN ?_ _ | refine blk_drew ?_ | refine blk_alloc ?_ _)); exact BK602.out⟩, ⟨bX⟩⟩
  ·go_meet
   case rel => exact ⟨_, (true), bs, H', ⟨by first | omega | exact Nat.le_refl _⟩, ⟨by (with_reducible repeat (first | refine blk_drewN ?_ _ | refine blk_drew ?_ | refine blk_alloc ?_ _)); exact BK602.out⟩, ⟨bX⟩⟩
  go_meet
  case rel => exact ⟨_, (true), bs, H', ⟨by first | omega | exact Nat.le_refl _⟩, ⟨by (with_reducible repeat (first | refine blk_drewN ?_ _ | refine blk_drew ?_ | refine blk_alloc ?_ _)); exact BK602.out⟩, ⟨bX⟩⟩
 clear HC3
 try clear c1
 try clear p2
 try clear c4
 try clear c6
 try clear c7
 try clear c7b0
 try clear c7b1
 try clear c10
 try clear c13
 try clear hcz14_0
 try clear hcz14_1
 try clear hfz14_0
 try clear hfz14_1
 obtain ⟨kq, x21_2, rfl, HA, HJ2, BK602, HB⟩ := hcut
 cases kq with
 | zero => exact absurd HA.out (by simp [apogeelaw12_BoxPoint.j0])
 | succ kj2 =>
  have H := HA.out
  clear HA
  simp only [apogeelaw12_BoxPoint.j0] at H
  by_cases c19 : x21_2 = true
  ·subst c19
   rw [if_pos rfl] at H
   replace H := Option.bind_eq_some_iff.mp H
   obtain ⟨t606, A200, H⟩ := H
   have A20 := bA A200
   clear A200
   obtain rfl := Option.some.inj H
   go_wp2_with (first | ((first | ((with_reducible refine gate_callee (f := 44) rfl ?_); refine bC (some 22) Try.func44 #[] ?_) | go_at_call 44); (with_reducible refine (apogeelaw12_awake.calls kj2  t606 _ A20.out).mono ?_); rintro e w21 ⟨rfl, hb⟩; (first | refine ⟨_, rfl, ?_⟩ | skip); replace BK602 := bA (bB BK602 hb); replace HB := bA (bS hb); (try clear hb)))
   go_ret
   exact bF
  replace c19 := Bool.eq_false_iff.mpr c19
  subst c19
  rw [if_neg bn] at H
  replace H := Option.bind_eq_some_iff.mp H
  obtain ⟨t607, A220, H⟩ := H
  have A22 := bA A220
  clear A220
  replace H := Option.bind_eq_some_iff.mp H
  obtain ⟨t608, A230, H⟩ := H
  have A23 := bA A230
  clear A230
  by_cases c24 : t607 = t608
  rotate_left
  ·rw [if_neg c24] at H
   have c24b0 : (t607 == t608) = false := beq_eq_false_iff_ne.mpr c24
   have c24b1 : (t607 != t608) = true := bne_iff_ne.mpr c24
   exact absurd H (by simp)
  rw [if_pos c24] at H
  have c24b0 : (t607 == t608) = true := beq_iff_eq.mpr c24
  have c24b1 : (t607 != t608) = false := bne_eq_false_iff_eq.mpr c24
  clear c24
  replace H := Option.bind_eq_some_iff.mp H
  obtain ⟨⟨t609, t610, t611, t612⟩, A250, H⟩ := H
  replace H : ((box_Relate.f kj2 t609 t610 t611 t612 l0).bind fun t613 => ((poly_Side.f kj2 l0 a1_0 a1_1).bind fun t614 => (some (t613 == t614)))) = some r := H
  have A25 := bA A250
  clear A250
  replace H := Option.bind_eq_some_iff.mp H
  obtain ⟨t613, A260, H⟩ := H
  have A26 := bA A260
  clear A260
  replace H := Option.bind_eq_some_iff.mp H
  obtain ⟨t614, A270, H⟩ := H
  have A27 := bA A270
  clear A270
  obtain rfl := Option.some.inj H
  try go_wp2
  replace BK602 := bA (blk_drew BK602.out)
  replace HB := bA (below_drew1 HB.out)
  refine start_ (n := 20) (S := fun w' => w'.cell? ⟨gb602, 0, none⟩ = some (.int .i64 a1_0) ∧ w'.cell? ⟨gb602, 1, none⟩ = some (.int .i64 a1_1)) (ds := []) #[false,false,false,false,false,false,false,false,false,false,false,false,false,false,false,false,false,false,false,false] (by kernel_rfl) rfl rfl ⟨bq BK602 0, bq BK602 1⟩ (fun hHeld => ?_); refine with_tabW apogeelaw12_BoxPoint.tab3 apogeelaw12_BoxPoint.bits3 (fun HT_ HW_ => ?_)
  generalize wc.drew = w28 at BK602 HB hHeld ⊢
  refine bU (i := 3) (N := some 26) ?_
  refine bU (i := 5) (N := some 28) ?_
  refine bW (i := 0) (N := some 23) hHeld ?_
  refine bW (i := 1) (N := some 24) hHeld ?_
  refine bU (i := 2) (N := some 25) ?_
  refine bW (i := 6) (N := some 29) hHeld ?_
  refine one_ (i := 4) (N := some 27) #[true,true,true,true,true,true,true,false,false,false,false,false,false,false,false,false,false,false,false,false] rfl rfl (one_of HT_.out (by kernel_rfl)) (by decide) (fun K hK => ?_)
  refine goes_ Try.func47 (by kernel_rfl) rfl #[.agg #[.int .i64 a1_0, .int .i64 a1_1, .int .i64 a1_0, .int .i64 a1_1], .slice A0 l0.length c0] (by rfl) rfl rfl (by (try simp only [List.map_toArray, List.map_cons, List.map_nil]); first | done | rfl | (simp only [List.length_drop, List.length_take]; rfl)) ?_
  with_reducible refine (box_Relate.calls kj2 a1_0 a1_1 a1_0 a1_1 _ _ l0 t607 _ ?side1 ?side2 A22.out).mono ?_
  (case side1 => exact bQ HR0)
  (case side2 => exact HC0.out)
  rintro e w29 ⟨rfl, hb⟩
  refine ⟨_, rfl, ?_⟩
  replace BK602 := bA (bB BK602 hb)
  replace HB := bA (bS hb)
  (try clear hb)
  refine hK.out _ _ ⟨bq BK602 0, bq BK602 1⟩ (fun hHeld => ?_)
  clear hK K
  refine bH ?_
  refine one_ (i := 7) (N := some 30) #[true,true,true,true,true,true,true,true,false,false,false,false,false,false,false,false,false,false,false,false] rfl rfl (one_of HT_.out (by kernel_rfl)) (by decide) (fun K hK => ?_)
  refine goes_ Try.func32 (by kernel_rfl) rfl #[.slice A0 l0.length c0, .agg #[.int .i64 a1_0, .int .i64 a1_1]] (by rfl) rfl rfl (by (try simp only [List.map_toArray, List.map_cons, List.map_nil]); first | done | rfl | (simp only [List.length_drop, List.length_take]; rfl)) ?_
  with_reducible refine (poly_Side.calls kj2 _ _ l0 a1_0 a1_1 t608 _ ?side1 ?side2 A23.out).mono ?_
  (case side1 => exact bQ HR0)
  (case side2 => exact HC0.out)
  rintro e w30 ⟨rfl, hb⟩
  refine ⟨_, rfl, ?_⟩
  replace BK602 := bA (bB BK602 hb)
  replace HB := bA (bS hb)
  (try clear hb)
  refine hK.out _ _ ⟨bq BK602 0, bq BK602 1⟩ (fun hHeld => ?_)
  clear hK K
  refine bH ?_
  refine bU (i := 8) (N := some 31) ?_
  refine bU (i := 9) (N := some 32) ?_
  refine bU (i := 12) (N := some 35) ?_
  refine bU (i := 14) (N := some 37) ?_
  refine bW (i := 10) (N := some 33) hHeld ?_
  refine bW (i := 15) (N := some 38) hHeld ?_
  refine one_ (i := 11) (N := some 34) #[true,true,true,true,true,true,true,true,true,true,true,true,true,false,true,true,false,false,false,false] rfl rfl (one_of HT_.out (by kernel_rfl)) (by decide) (fun K hK => ?_)
  refine goes_ Try.func52 (by kernel_rfl) rfl #[.agg #[.int .i64 a1_0, .int .i64 a1_1], .int .i64 0] (by rfl) rfl rfl (by (try simp only [List.map_toArray, List.map_cons, List.map_nil]); first | done | rfl | (simp only [List.length_drop, List.length_take]; rfl)) ?_
  with_reducible refine (box_Of.calls a1_0 a1_1 0 t609 t610 t611 t612 _ A25.out).mono ?_
  rintro e w31 ⟨rfl, hb⟩
  refine ⟨_, rfl, ?_⟩
  replace BK602 := bA (bB BK602 hb)
  replace HB := bA (bS hb)
  (try clear hb)
  refine hK.out _ _ ⟨bq BK602 0, bq BK602 1⟩ (fun hHeld => ?_)
  clear hK K
  refine bH ?_
  refine one_ (i := 13) (N := some 36) #[true,true,true,true,true,true,true,true,true,true,true,true,true,true,true,true,false,false,false,false] rfl rfl (one_of HT_.out (by kernel_rfl)) (by decide) (fun K hK => ?_)
  refine goes_ Try.func47 (by kernel_rfl) rfl #[.agg #[.int .i64 t609, .int .i64 t610, .int .i64 t611, .int .i64 t612], .slice A0 l0.length c0] (by rfl) rfl rfl (by (try simp only [List.map_toArray, List.map_cons, List.map_nil]); first | done | rfl | (simp only [List.length_drop, List.length_take]; rfl)) ?_
  with_reducible refine (box_Relate.calls kj2 t609 t610 t611 t612 _ _ l0 t613 _ ?side1 ?side2 A26.out).mono ?_
  (case side1 => exact bQ HR0)
  (case side2 => exact HC0.out)
  rintro e w32 ⟨rfl, hb⟩
  refine ⟨_, rfl, ?_⟩
  replace BK602 := bA (bB BK602 hb)
  replace HB := bA (bS hb)
  (try clear hb)
  refine hK.out _ _ ⟨bq BK602 0, bq BK602 1⟩ (fun hHeld => ?_)
  clear hK K
  refine bH ?_
  refine one_ (i := 16) (N := some 39) #[true,true,true,true,true,true,true,true,true,true,true,true,true,true,true,true,true,false,false,false] rfl rfl (one_of HT_.out (by kernel_rfl)) (by decide) (fun K hK => ?_)
  refine goes_ Try.func32 (by kernel_rfl) rfl #[.slice A0 l0.length c0, .agg #[.int .i64 a1_0, .int .i64 a1_1]] (by rfl) rfl rfl (by (try simp only [List.map_toArray, List.map_cons, List.map_nil]); first | done | rfl | (simp only [List.length_drop, List.length_take]; rfl)) ?_
  with_reducible refine (poly_Side.calls kj2 _ _ l0 a1_0 a1_1 t614 _ ?side1 ?side2 A27.out).mono ?_
  (case side1 => exact bQ HR0)
  (case side2 => exact HC0.out)
  rintro e w33 ⟨rfl, hb⟩
  refine ⟨_, rfl, ?_⟩
  replace BK602 := bA (bB BK602 hb)
  replace HB := bA (bS hb)
  (try clear hb)
  refine hK.out _ _ ⟨bq BK602 0, bq BK602 1⟩ (fun hHeld => ?_)
  clear hK K
  refine bH ?_
  refine bU (i := 17) (N := some 40) ?_
  refine bU (i := 18) (N := some 41) ?_
  refine bU (i := 19) (N := some 4) ?_
  refine done_ (done_of HT_.out (by kernel_rfl)) ?_
  try go_wp2
  go_ret
  exact bF
end Go.Proofs.Ytjmibjmlihmglaa.G
