-- Written by a program of this session out of the translation; Lean checks it.
import Derived.Test.YtjmibjmlihmglaaGx0
import Derived.Test.YtjmibjmlihmglaaGx8
import Derived.Test.YtjmibjmlihmglaaGx11
import Derived.Test.YtjmibjmlihmglaaGx12
import Derived.Test.YtjmibjmlihmglaaGx14
import Derived.Test.YtjmibjmlihmglaaGx20
namespace Go.Proofs.Ytjmibjmlihmglaa.G
open Go.RowKit Go.Proofs.YtjmibjmlihmglaaW.PrintWords Go.Proofs.YtjmibjmlihmglaaW.PrintLast Go.Proofs.YtjmibjmlihmglaaW.PrintMore
attribute [local go_sem] max2_int min2_int max_two min_two max_three min_three max_four min_four   -- for this text's walks alone
set_option linter.unusedVariables false
set_option linter.unusedSimpArgs false

/-! ### apogeelaw11_PolyWays: function 8 -/
mutual
def apogeelaw11_PolyWays.j0 : Nat → List (S41) → Bool → Int → Int → Int → Int → Option (Bool)
 | 0, _, _, _, _, _, _ => none
 | k + 1, x0, x34, x547000, x547001, x548000, x548001 => if x34 = true then ((apogeelaw11_awake.f k).bind fun t553 => (some t553)) else ((poly_Bounds.f k x0).bind fun bt554 => (if x547000 < bt554.1 then ((poly_Side.f k x0 x547000 x547001).bind fun t560 => (apogeelaw11_PolyWays.j1 k x0 (t560 != (-1)) x547000 x547001 x548000 x548001)) else (if x547000 > bt554.2.2.1 then ((poly_Side.f k x0 x547000 x547001).bind fun t561 => (apogeelaw11_PolyWays.j1 k x0 (t561 != (-1)) x547000 x547001 x548000 x548001)) else (if x547001 < bt554.2.1 then ((poly_Side.f k x0 x547000 x547001).bind fun t562 => (apogeelaw11_PolyWays.j1 k x0 (t562 != (-1)) x547000 x547001 x548000 x548001)) else (if x547001 > bt554.2.2.2.1 then ((poly_Side.f k x0 x547000 x547001).bind fun t563 => (apogeelaw11_PolyWays.j1 k x0 (t563 != (-1)) x547000 x547001 x548000 x548001)) else (apogeelaw11_PolyWays.j1 k x0 false x547000 x547001 x548000 x548001))))))
def apogeelaw11_PolyWays.j1 : Nat → List (S41) → Bool → Int → Int → Int → Int → Option (Bool)
 | 0, _, _, _, _, _, _ => none
 | k + 1, x0, x76, x547000, x547001, x548000, x548001 => if x76 = true then (none) else (apogeelaw11_PolyWays.l0 k x0 false x0 (x0.length : Int) 0 x547000 x547001 x548000 x548001)
def apogeelaw11_PolyWays.l0 : Nat → List (S41) → Bool → List (S41) → Int → Int → Int → Int → Int → Int → Option (Bool)
 | 0, _, _, _, _, _, _, _, _, _ => none
 | k + 1, x0, x9, x77, x78, x79, x547000, x547001, x548000, x548001 => if x79 < x78 then (if 0 ≤ x79 then (if x79 < (x77.length : Int) then (if (x0.length : Int) = 0 then (none) else (if 0 ≤ (Int.tmod (wrap64 (x79 + 1)) (x0.length : Int)) then (if (Int.tmod (wrap64 (x79 + 1)) (x0.length : Int)) < (x0.length : Int) then ((poly_Side.f k x0 ((rd_T41 x77 x79).f0) ((rd_T41 x77 x79).f1)).bind fun t571 => (if t571 = 0 then ((point_On.f k x547000 x547001 ((rd_T41 x77 x79).f0) ((rd_T41 x77 x79).f1) ((rd_T41 x0 (Int.tmod (wrap64 (x79 + 1)) (x0.length : Int))).f0) ((rd_T41 x0 (Int.tmod (wrap64 (x79 + 1)) (x0.length : Int))).f1)).bind fun t572 => (if t572 = true then ((poly_Side.f k x0 x547000 x547001).bind fun t573 => (if t573 = 0 then (if x9 = true then (apogeelaw11_PolyWays.l0 k x0 true x77 x78 (wrap64 (x79 + 1)) x547000 x547001 x548000 x548001) else ((point_Meet.f k x547000 x547001 x548000 x548001 ((rd_T41 x77 x79).f0) ((rd_T41 x77 x79).f1) ((rd_T41 x0 (Int.tmod (wrap64 (x79 + 1)) (x0.length : Int))).f0) ((rd_T41 x0 (Int.tmod (wrap64 (x79 + 1)) (x0.length : Int))).f1)).bind fun t574 => (apogeelaw11_PolyWays.l0 k x0 t574 x77 x78 (wrap64 (x79 + 1)) x547000 x547001 x548000 x548001))) else (none))) else (if x9 = true then (apogeelaw11_PolyWays.l0 k x0 true x77 x78 (wrap64 (x79 + 1)) x547000 x547001 x548000 x548001) else ((point_Meet.f k x547000 x547001 x548000 x548001 ((rd_T41 x77 x79).f0) ((rd_T41 x77 x79).f1) ((rd_T41 x0 (Int.tmod (wrap64 (x79 + 1)) (x0.length : Int))).f0) ((rd_T41 x0 (Int.tmod (wrap64 (x79 + 1)) (x0.length : Int))).f1)).bind fun t575 => (apogeelaw11_PolyWays.l0 k x0 t575 x77 x78 (wrap64 (x79 + 1)) x547000 x547001 x548000 x548001))))) else (none))) else (none)) else (none))) else (none)) else (none)) else (if x9 = true then (some true) else ((poly_Side.f k x0 x547000 x547001).bind fun t564 => ((poly_Side.f k x0 x548000 x548001).bind fun t565 => (if t564 = t565 then ((poly_Side.f k x0 x547000 x547001).bind fun t566 => (some (t566 != 0))) else (none)))))
end
def apogeelaw11_PolyWays.f (k : Nat) (l0 : List (S41)) (a1_0 : Int) (a1_1 : Int) (a2_0 : Int) (a2_1 : Int) : Option (Bool) := (apogeelaw11_awake.f k).bind fun t548 => (if t548 = true then ((apogeelaw11_few.f l0).bind fun t549 => (if t549 = true then ((apogeeref11_Right.f k l0).bind fun t550 => (if t550 = true then ((apogeeref10_Right.f a1_0 a1_1).bind fun t551 => (if t551 = true then ((apogeeref10_Right.f a2_0 a2_1).bind fun t552 => (apogeelaw11_PolyWays.j0 k l0 (!t552) a1_0 a1_1 a2_0 a2_1)) else (apogeelaw11_PolyWays.j0 k l0 true a1_0 a1_1 a2_0 a2_1))) else (apogeelaw11_PolyWays.j0 k l0 true a1_0 a1_1 a2_0 a2_1))) else (apogeelaw11_PolyWays.j0 k l0 true a1_0 a1_1 a2_0 a2_1))) else (apogeelaw11_PolyWays.j0 k l0 true a1_0 a1_1 a2_0 a2_1))
theorem apogeelaw11_PolyWays.mono_l : ∀ k, (∀ y0 y1 y2 y3 y4 y5, LeO (apogeelaw11_PolyWays.j0 k y0 y1 y2 y3 y4 y5) (apogeelaw11_PolyWays.j0 (k + 1) y0 y1 y2 y3 y4 y5)) ∧ (∀ y0 y1 y2 y3 y4 y5, LeO (apogeelaw11_PolyWays.j1 k y0 y1 y2 y3 y4 y5) (apogeelaw11_PolyWays.j1 (k + 1) y0 y1 y2 y3 y4 y5)) ∧ (∀ y0 y1 y2 y3 y4 y5 y6 y7 y8, LeO (apogeelaw11_PolyWays.l0 k y0 y1 y2 y3 y4 y5 y6 y7 y8) (apogeelaw11_PolyWays.l0 (k + 1) y0 y1 y2 y3 y4 y5 y6 y7 y8))
 | 0 => ⟨fun _ _ _ _ _ _ r h => by simp [apogeelaw11_PolyWays.j0] at h, fun _ _ _ _ _ _ r h => by simp [apogeelaw11_PolyWays.j1] at h, fun _ _ _ _ _ _ _ _ _ r h => by simp [apogeelaw11_PolyWays.l0] at h⟩
 | k + 1 => by
  obtain ⟨ih0, ih1, ih2⟩ := apogeelaw11_PolyWays.mono_l k
  refine ⟨?_, ?_, ?_⟩
  ·intro y0 y1 y2 y3 y4 y5
   unfold apogeelaw11_PolyWays.j0
   repeat' first
   | (with_reducible exact ih0 _ _ _ _ _ _)
   | (with_reducible exact ih1 _ _ _ _ _ _)
   | (with_reducible exact ih2 _ _ _ _ _ _ _ _ _)
   | (with_reducible exact apogeelaw11_awake.mono _)
   | (with_reducible exact apogeeref11_Right.mono _ _)
   | (with_reducible exact point_Meet.mono _ _ _ _ _ _ _ _ _)
   | (with_reducible exact point_On.mono _ _ _ _ _ _ _)
   | (with_reducible exact poly_Bounds.mono _ _)
   | (with_reducible exact poly_Side.mono _ _ _ _)
   | (with_reducible exact LeO.refl _)
   | (with_reducible exact LeO.none _)
   | (with_reducible refine LeO.ite ?_ ?_)
   | (with_reducible refine LeO.bind ?_ (fun _ => ?_))
   | exact ih0 _ _ _ _ _ _
   | exact ih1 _ _ _ _ _ _
   | exact ih2 _ _ _ _ _ _ _ _ _
   | exact apogeelaw11_awake.mono _
   | exact apogeeref11_Right.mono _ _
   | exact point_Meet.mono _ _ _ _ _ _ _ _ _
   | exact point_On.mono _ _ _ _ _ _ _
   | exact poly_Bounds.mono _ _
   | exact poly_Side.mono _ _ _ _
   | exact LeO.none _
   | refine LeO.ite ?_ ?_
   | refine LeO.bind ?_ (fun _ => ?_)
  ·intro y0 y1 y2 y3 y4 y5
   unfold apogeelaw11_PolyWays.j1
   repeat' first
   | (with_reducible exact ih0 _ _ _ _ _ _)
   | (with_reducible exact ih1 _ _ _ _ _ _)
   | (with_reducible exact ih2 _ _ _ _ _ _ _ _ _)
   | (with_reducible exact apogeelaw11_awake.mono _)
   | (with_reducible exact apogeeref11_Right.mono _ _)
   | (with_reducible exact point_Meet.mono _ _ _ _ _ _ _ _ _)
   | (with_reducible exact point_On.mono _ _ _ _ _ _ _)
   | (with_reducible exact poly_Bounds.mono _ _)
   | (with_reducible exact poly_Side.mono _ _ _ _)
   | (with_reducible exact LeO.refl _)
   | (with_reducible exact LeO.none _)
   | (with_reducible refine LeO.ite ?_ ?_)
   | (with_reducible refine LeO.bind ?_ (fun _ => ?_))
   | exact ih0 _ _ _ _ _ _
   | exact ih1 _ _ _ _ _ _
   | exact ih2 _ _ _ _ _ _ _ _ _
   | exact apogeelaw11_awake.mono _
   | exact apogeeref11_Right.mono _ _
   | exact point_Meet.mono _ _ _ _ _ _ _ _ _
   | exact point_On.mono _ _ _ _ _ _ _
   | exact poly_Bounds.mono _ _
   | exact poly_Side.mono _ _ _ _
   | exact LeO.none _
   | refine LeO.ite ?_ ?_
   | refine LeO.bind ?_ (fun _ => ?_)
  ·intro y0 y1 y2 y3 y4 y5 y6 y7 y8
   unfold apogeelaw11_PolyWays.l0
   repeat' first
   | (with_reducible exact ih0 _ _ _ _ _ _)
   | (with_reducible exact ih1 _ _ _ _ _ _)
   | (with_reducible exact ih2 _ _ _ _ _ _ _ _ _)
   | (with_reducible exact apogeelaw11_awake.mono _)
   | (with_reducible exact apogeeref11_Right.mono _ _)
   | (with_reducible exact point_Meet.mono _ _ _ _ _ _ _ _ _)
   | (with_reducible exact point_On.mono _ _ _ _ _ _ _)
   | (with_reducible exact poly_Bounds.mono _ _)
   | (with_reducible exact poly_Side.mono _ _ _ _)
   | (with_reducible exact LeO.refl _)
   | (with_reducible exact LeO.none _)
   | (with_reducible refine LeO.ite ?_ ?_)
   | (with_reducible refine LeO.bind ?_ (fun _ => ?_))
   | exact ih0 _ _ _ _ _ _
   | exact ih1 _ _ _ _ _ _
   | exact ih2 _ _ _ _ _ _ _ _ _
   | exact apogeelaw11_awake.mono _
   | exact apogeeref11_Right.mono _ _
   | exact point_Meet.mono _ _ _ _ _ _ _ _ _
   | exact point_On.mono _ _ _ _ _ _ _
   | exact poly_Bounds.mono _ _
   | exact poly_Side.mono _ _ _ _
   | exact LeO.none _
   | refine LeO.ite ?_ ?_
   | refine LeO.bind ?_ (fun _ => ?_)
theorem apogeelaw11_PolyWays.mono : ∀ a0 a1 a2 a3 a4 k, LeO (apogeelaw11_PolyWays.f k a0 a1 a2 a3 a4) (apogeelaw11_PolyWays.f (k + 1) a0 a1 a2 a3 a4) := by
 intro a0 a1 a2 a3 a4 k
 obtain ⟨ih0, ih1, ih2⟩ := apogeelaw11_PolyWays.mono_l k
 unfold apogeelaw11_PolyWays.f
 repeat' first
   | (with_reducible exact ih0 _ _ _ _ _ _)
   | (with_reducible exact ih1 _ _ _ _ _ _)
   | (with_reducible exact ih2 _ _ _ _ _ _ _ _ _)
   | (with_reducible exact apogeelaw11_awake.mono _)
   | (with_reducible exact apogeeref11_Right.mono _ _)
   | (with_reducible exact point_Meet.mono _ _ _ _ _ _ _ _ _)
   | (with_reducible exact point_On.mono _ _ _ _ _ _ _)
   | (with_reducible exact poly_Bounds.mono _ _)
   | (with_reducible exact poly_Side.mono _ _ _ _)
   | (with_reducible exact LeO.refl _)
   | (with_reducible exact LeO.none _)
   | (with_reducible refine LeO.ite ?_ ?_)
   | (with_reducible refine LeO.bind ?_ (fun _ => ?_))
   | exact ih0 _ _ _ _ _ _
   | exact ih1 _ _ _ _ _ _
   | exact ih2 _ _ _ _ _ _ _ _ _
   | exact apogeelaw11_awake.mono _
   | exact apogeeref11_Right.mono _ _
   | exact point_Meet.mono _ _ _ _ _ _ _ _ _
   | exact point_On.mono _ _ _ _ _ _ _
   | exact poly_Bounds.mono _ _
   | exact poly_Side.mono _ _ _ _
   | exact LeO.none _
   | refine LeO.ite ?_ ?_
   | refine LeO.bind ?_ (fun _ => ?_)
def apogeelaw11_PolyWays.T15 : Bool × List (List Nat × List Nat) := (true, [([], []), ([0], [0]), ([1], [1]), ([1], [1]), ([2, 3, 1, 1], [1, 2, 3]), ([1], [1]), ([1], [1]), ([5, 6, 4, 1], [1, 5, 6]), ([4, 7, 1], [1, 4, 7]), ([8, 7, 1], [1, 8]), ([9], [9]), ([9], [9]), ([10, 11, 9, 9], [9, 10, 11]), ([12, 9], [9, 12]), ([9, 13, 1], [1, 9, 13]), ([1, 14], [1, 14]), ([15, 12, 0, 1, 2, 3, 4, 5, 6, 7, 8, 9, 10, 11, 12, 13, 14, 15], [15])])
def apogeelaw11_PolyWays.B15 : List Nat := [0, 1, 3, 3, 15, 3, 3, 127, 255, 511, 1023, 1023, 4095, 8191, 16383, 32767, 65535]
theorem apogeelaw11_PolyWays.tab15 : rtab .any (opsOf Try.f8 15) = apogeelaw11_PolyWays.T15 := by kernel_rfl
theorem apogeelaw11_PolyWays.bits15 : waitsOk apogeelaw11_PolyWays.T15.2 apogeelaw11_PolyWays.B15 = true := by kernel_rfl
set_option maxHeartbeats 8000000 in
set_option maxRecDepth 100000 in
theorem apogeelaw11_PolyWays.calls (k : Nat) (A0 : Option Addr) (c0 : Nat) (l0 : List (S41)) (a1_0 : Int) (a1_1 : Int) (a2_0 : Int) (a2_1 : Int) (r : Bool) (w : World) (hr0 : Kd.C k41 w A0 l0.length l0) (hc0 : l0.length ≤ c0) (h : apogeelaw11_PolyWays.f k l0 a1_0 a1_1 a2_0 a2_1 = some r) :
  Calls Try.prog 8 #[.slice A0 l0.length c0, .agg #[.int .i64 a1_0, .int .i64 a1_1], .agg #[.int .i64 a2_0, .int .i64 a2_1]] w fun e w' => e = .returned (.bool r) ∧ Below w.heap.size w w' := by
 have hu41 := Try.underlying41
 have hu44 := Try.underlying44
 have HR0 := bA hr0
 have HC0 := bA hc0
 clear hr0 hc0
 have HB := bA (Below.refl w.heap.size w)
 have H : ((apogeelaw11_awake.f k).bind fun t548 => (if t548 = true then ((apogeelaw11_few.f l0).bind fun t549 => (if t549 = true then ((apogeeref11_Right.f k l0).bind fun t550 => (if t550 = true then ((apogeeref10_Right.f a1_0 a1_1).bind fun t551 => (if t551 = true then ((apogeeref10_Right.f a2_0 a2_1).bind fun t552 => (apogeelaw11_PolyWays.j0 k l0 (!t552) a1_0 a1_1 a2_0 a2_1)) else (apogeelaw11_PolyWays.j0 k l0 true a1_0 a1_1 a2_0 a2_1))) else (apogeelaw11_PolyWays.j0 k l0 true a1_0 a1_1 a2_0 a2_1))) else (apogeelaw11_PolyWays.j0 k l0 true a1_0 a1_1 a2_0 a2_1))) else (apogeelaw11_PolyWays.j0 k l0 true a1_0 a1_1 a2_0 a2_1))) = some r := h
 clear h
 have HC4 := bA H
 clear H
 go_enter Try.func8, Try.ntmps8
 go_upto_region 1 with (first | ((with_reducible refine gate_dst (N := 4) rfl ?_); refine bE (N := 4) (cs := #[.int .i64 a1_0, .int .i64 a1_1]) (t := 41) ?_; intro gb546 hg w5 hbox hb; have n0_ := bA (bS hb); have n1_ := bA (hbox); have n2_ := bA (bZ hg); have n3_ := bA (bZ hg); clear HB; have HB := n0_; have BK546 := n1_; have GW546 := n2_; have GE546 := n3_; clear n0_ n1_ n2_ n3_; clear hb hbox hg) | ((with_reducible refine gate_dst (N := 5) rfl ?_); refine bE (N := 5) (cs := #[.int .i64 a2_0, .int .i64 a2_1]) (t := 41) ?_; intro gb547 hg w6 hbox hb; have n0_ := bA (bB BK546 hb); have n1_ := bA (bS hb); have n2_ := bA (hbox); have n3_ := bA (bZ hg); have n4_ := bA (bZ hg); have n5_ := bA (bL BK546 hg); have n6_ := bA (bG BK546 hg); clear BK546; clear HB; have BK546 := n0_; have HB := n1_; have BK547 := n2_; have GW547 := n3_; have GE547 := n4_; have NB546_547 := n5_; have NB547_546 := n6_; clear n0_ n1_ n2_ n3_ n4_ n5_ n6_; clear hb hbox hg))
 (try simp only [Act.put, List.setIfInBounds_toArray, List.set_cons_zero, List.set_cons_succ])
 go_cut [34] (fun v34 wc => ∃ (kq : Nat) (x34_3 : Bool), v34 = .bool x34_3 ∧ Aside0 (apogeelaw11_PolyWays.j0 kq l0 x34_3 a1_0 a1_1 a2_0 a2_1 = some r) ∧ Aside0 (kq ≤ k) ∧ Aside0 (wc.heap[gb546]? = some (.cells #[.int .i64 a1_0, .int .i64 a1_1] 41 (0, 0))) ∧ Aside0 (wc.heap[gb547]? = some (.cells #[.int .i64 a2_0, .int .i64 a2_1] 41 (0, 0))) ∧ Aside0 (Below w.heap.size w wc))
 case first =>
  have H := HC4.out
  clear HC4
  replace H := Option.bind_eq_some_iff.mp H
  obtain ⟨t548, A70, H⟩ := H
  have A7 := bA A70
  clear A70
  by_cases c8 : t548 = true
  subst c8
  rw [if_pos rfl] at H
  replace H := Option.bind_eq_some_iff.mp H
  obtain ⟨t549, A90, H⟩ := H
  have A9 := bA A90
  clear A90
  by_cases c10 : t549 = true
  subst c10
  rw [if_pos rfl] at H
  replace H := Option.bind_eq_some_iff.mp H
  obtain ⟨t550, A110, H⟩ := H
  have A11 := bA A110
  clear A110
  by_cases c12 : t550 = true
  subst c12
  rw [if_pos rfl] at H
  replace H := Option.bind_eq_some_iff.mp H
  obtain ⟨t551, A130, H⟩ := H
  have A13 := bA A130
  clear A130
  by_cases c14 : t551 = true
  subst c14
  rw [if_pos rfl] at H
  replace H := Option.bind_eq_some_iff.mp H
  obtain ⟨t552, A150, H⟩ := H
  have A15 := bA A150
  clear A150
  have H' := bA H
  clear H
  rotate_left
  replace c14 := Bool.eq_false_iff.mpr c14
  subst c14
  rw [if_neg bn] at H
  have H' := bA H
  clear H
  rotate_left
  replace c12 := Bool.eq_false_iff.mpr c12
  subst c12
  rw [if_neg bn] at H
  have H' := bA H
  clear H
  rotate_left
  replace c10 := Bool.eq_false_iff.mpr c10
  subst c10
  rw [if_neg bn] at H
  have H' := bA H
  clear H
  rotate_left
  replace c8 := Bool.eq_false_iff.mpr c8
  subst c8
  rw [if_neg bn] at H
  have H' := bA H
  clear H
  rotate_left
  all_goals go_wp2_with (first | ((first | ((with_reducible refine gate_callee (f := 25) rfl ?_); refine bC (some 13) Try.func25 #[] ?_) | go_at_call 25); (with_reducible refine (apogeelaw11_awake.calls k  true _ A7.out).mono ?_); rintro e wz0 ⟨rfl, hb⟩; (first | refine ⟨_, rfl, ?_⟩ | skip); replace BK546 := bA (bB BK546 hb); replace BK547 := bA (bB BK547 hb); replace HB := bA (bS hb); (try clear hb)) | (go_at_call 26; (with_reducible refine (apogeelaw11_few.calls _ _ l0 true _ ?side1 ?side2 A9.out).mono ?_); (case side1 => exact bQ HR0); (case side2 => exact HC0.out); rintro e w' ⟨rfl, ⟨nd, rfl⟩⟩) | (go_at_call 28; (with_reducible refine (apogeeref11_Right.calls k _ _ l0 true _ ?side1 ?side2 A11.out).mono ?_); (case side1 => repeat (first | exact (Kd.C_below HR0.out bX) | (with_reducible refine Kd.C_alloc ?_ _) | (with_reducible refine Kd.C_drewN ?_ _) | (with_reducible refine Kd.C_drew ?_))); (case side2 => exact HC0.out); rintro e wz1 ⟨rfl, hb⟩; replace BK546 := bA (bB BK546 hb); replace BK547 := bA (bB BK547 hb); replace HB := bA (bS hb); (try clear hb); have hz1 := NB546_547.out; have hz2 := NB547_546.out; obtain ⟨hz3, hz4, hz5, hz6⟩ := bc2 BK546) | (go_at_call 40; (with_reducible refine (apogeeref10_Right.calls a1_0 a1_1 true _ A13.out).mono ?_); rintro e wz2 ⟨rfl, hb⟩; replace BK546 := bA (bB BK546 hb); replace BK547 := bA (bB BK547 hb); replace HB := bA (bS hb); (try clear hb); obtain ⟨hz7, hz8, hz9, hz10⟩ := bc2 BK547) | (go_at_call 40; (with_reducible refine (apogeeref10_Right.calls a2_0 a2_1 t552 _ A15.out).mono ?_); rintro e wz3 ⟨rfl, hb⟩; replace BK546 := bA (bB BK546 hb); replace BK547 := bA (bB BK547 hb); replace HB := bA (bS hb); (try clear hb)) | (go_at_call 40; (with_reducible refine (apogeeref10_Right.calls a1_0 a1_1 false _ A13.out).mono ?_); rintro e wz2 ⟨rfl, hb⟩; replace BK546 := bA (bB BK546 hb); replace BK547 := bA (bB BK547 hb); replace HB := bA (bS hb); (try clear hb)) | (go_at_call 28; (with_reducible refine (apogeeref11_Right.calls k _ _ l0 false _ ?side1 ?side2 A11.out).mono ?_); (case side1 => repeat (first | exact (Kd.C_below HR0.out bX) | (with_reducible refine Kd.C_alloc ?_ _) | (with_reducible refine Kd.C_drewN ?_ _) | (with_reducible refine Kd.C_drew ?_))); (case side2 => exact HC0.out); rintro e wz1 ⟨rfl, hb⟩; replace BK546 := bA (bB BK546 hb); replace BK547 := bA (bB BK547 hb); replace HB := bA (bS hb); (try clear hb)) | (go_at_call 26; (with_reducible refine (apogeelaw11_few.calls _ _ l0 false _ ?side1 ?side2 A9.out).mono ?_); (case side1 => exact bQ HR0); (case side2 => exact HC0.out); rintro e w' ⟨rfl, ⟨nd, rfl⟩⟩) | ((first | ((with_reducible refine gate_callee (f := 25) rfl ?_); refine bC (some 13) Try.func25 #[] ?_) | go_at_call 25); (with_reducible refine (apogeelaw11_awake.calls k  false _ A7.out).mono ?_); rintro e wz0 ⟨rfl, hb⟩; (first | refine ⟨_, rfl, ?_⟩ | skip); replace BK546 := bA (bB BK546 hb); replace BK547 := bA (bB BK547 hb); replace HB := bA (bS hb); (try clear hb)))
  ·go_meet
   case rel => exact ⟨_, (!t552), bs, H', ⟨by first | omega | exact Nat.le_refl _⟩, ⟨by (with_reducible repeat (first | refine blk_drewN ?_ _ | refine blk_drew ?_ | refine blk_alloc ?_ _)); exact BK546.out⟩, ⟨by (with_reducible repeat (first | refine blk_drewN ?_ _ | refine blk_drew ?_ | refine blk_alloc ?_ _)); exact BK547.out⟩, ⟨bX⟩⟩
  ·go_meet
   case rel => exact ⟨_, (true), bs, H', ⟨by first | omega | exact Nat.le_refl _⟩, ⟨by (with_reducible repeat (first | refine blk_drewN ?_ _ | refine blk_drew ?_ | refine blk_alloc ?_ _)); exact BK546.out⟩, ⟨by (with_reducible repeat (first | refine blk_drewN ?_ _ | refine blk_drew ?_ | refine blk_alloc ?_ _)); exact BK547.out⟩, ⟨bX⟩⟩
  ·go_meet
   case rel => exact ⟨_, (true), bs, H', ⟨by first | omega | exact Nat.le_refl _⟩, ⟨by (with_reducible repeat (first | refine blk_drewN ?_ _ | refine blk_drew ?_ | refine blk_alloc ?_ _)); exact BK546.out⟩, ⟨by (with_reducible repeat (first | refine blk_drewN ?_ _ | refine blk_drew ?_ | refine blk_alloc ?_ _)); exact BK547.out⟩, ⟨bX⟩⟩
  ·go_meet
   case rel => exact ⟨_, (true), bs, H', ⟨by first | omega | exact Nat.le_refl _⟩, ⟨by (with_reducible repeat (first | refine blk_drewN ?_ _ | refine blk_drew ?_ | refine blk_alloc ?_ _)); exact BK546.out⟩, ⟨by (with_reducible repeat (first | refine blk_drewN ?_ _ | refine blk_drew ?_ | refine blk_alloc ?_ _)); exact BK547.out⟩, ⟨bX⟩⟩
  go_meet
  case rel => exact ⟨_, (true), bs, H', ⟨by first | omega | exact Nat.le_refl _⟩, ⟨by (with_reducible repeat (first | refine blk_drewN ?_ _ | refine blk_drew ?_ | refine blk_alloc ?_ _)); exact BK546.out⟩, ⟨by (with_reducible repeat (first | refine blk_drewN ?_ _ | refine blk_drew ?_ | refine blk_alloc ?_ _)); exact BK547.out⟩, ⟨bX⟩⟩
 clear HC4
 try clear c1
 try clear c2
 try clear p2
 try clear c8
 try clear c10
 try clear c12
 try clear c14
 try clear c18
 try clear c25
 try clear hcz19_0
 try clear hcz19_1
 try clear hcz21_0
 try clear hcz21_1
 try clear hcz26_0
 try clear hcz26_1
 try clear hfz19_0
 try clear hfz19_1
 try clear hfz21_0
 try clear hfz21_1
 try clear hfz26_0
 try clear hfz26_1
 obtain ⟨kq, x34_3, rfl, HA, HJ3, BK546, BK547, HB⟩ := hcut
 cases kq with
 | zero => exact absurd HA.out (by simp [apogeelaw11_PolyWays.j0])
 | succ kj3 =>
  have H := HA.out
  clear HA
  simp only [apogeelaw11_PolyWays.j0] at H
  by_cases c32 : x34_3 = true
  ·subst c32
   rw [if_pos rfl] at H
   replace H := Option.bind_eq_some_iff.mp H
   obtain ⟨t553, A330, H⟩ := H
   have A33 := bA A330
   clear A330
   obtain rfl := Option.some.inj H
   go_wp2_with (first | ((first | ((with_reducible refine gate_callee (f := 25) rfl ?_); refine bC (some 35) Try.func25 #[] ?_) | go_at_call 25); (with_reducible refine (apogeelaw11_awake.calls kj3  t553 _ A33.out).mono ?_); rintro e w34 ⟨rfl, hb⟩; (first | refine ⟨_, rfl, ?_⟩ | skip); replace BK546 := bA (bB BK546 hb); replace BK547 := bA (bB BK547 hb); replace HB := bA (bS hb); (try clear hb)))
   go_ret
   exact bF
  replace c32 := Bool.eq_false_iff.mpr c32
  subst c32
  rw [if_neg bn] at H
  replace H := Option.bind_eq_some_iff.mp H
  obtain ⟨⟨t554, t555, t556, t557, t558⟩, A350, H⟩ := H
  replace H : (if a1_0 < t554 then ((poly_Side.f kj3 l0 a1_0 a1_1).bind fun t560 => (apogeelaw11_PolyWays.j1 kj3 l0 (t560 != (-1)) a1_0 a1_1 a2_0 a2_1)) else (if a1_0 > t556 then ((poly_Side.f kj3 l0 a1_0 a1_1).bind fun t561 => (apogeelaw11_PolyWays.j1 kj3 l0 (t561 != (-1)) a1_0 a1_1 a2_0 a2_1)) else (if a1_1 < t555 then ((poly_Side.f kj3 l0 a1_0 a1_1).bind fun t562 => (apogeelaw11_PolyWays.j1 kj3 l0 (t562 != (-1)) a1_0 a1_1 a2_0 a2_1)) else (if a1_1 > t557 then ((poly_Side.f kj3 l0 a1_0 a1_1).bind fun t563 => (apogeelaw11_PolyWays.j1 kj3 l0 (t563 != (-1)) a1_0 a1_1 a2_0 a2_1)) else (apogeelaw11_PolyWays.j1 kj3 l0 false a1_0 a1_1 a2_0 a2_1))))) = some r := H
  have A35 := bA A350
  clear A350
  have HC36 := bA H
  clear H
  go_upto_region 4 with (first | ((first | ((with_reducible refine gate_callee (f := 27) rfl ?_); refine bC (some 38) Try.func27 #[.slice A0 l0.length c0] ?_) | go_at_call 27); (with_reducible refine (poly_Bounds.calls kj3 _ _ l0 t554 t555 t556 t557 t558 _ ?side1 ?side2 A35.out).mono ?_); (case side1 => exact bQ HR0); (case side2 => exact HC0.out); rintro e w37 ⟨rfl, hb⟩; (first | refine ⟨_, rfl, ?_⟩ | skip); have n0_ := bA (bB BK546 hb); have n1_ := bA (bB BK547 hb); have n2_ := bA (bS hb); clear BK546; clear BK547; clear HB; have BK546 := n0_; have BK547 := n1_; have HB := n2_; clear n0_ n1_ n2_; (try clear hb)) | ((with_reducible refine gate_dst (N := 7) rfl ?_); refine bE (N := 7) (cs := #[.int .i64 0, .int .i64 0, .int .i64 0, .int .i64 0]) (t := 44) ?_; intro gb559 hg w38 hbox hb; have n0_ := bA (bB BK546 hb); have n1_ := bA (bB BK547 hb); have n2_ := bA (bS hb); have n3_ := bA (hbox); have n4_ := bA (bZ hg); have n5_ := bA (bZ hg); have n6_ := bA (bL BK546 hg); have n7_ := bA (bG BK546 hg); have n8_ := bA (bL BK547 hg); have n9_ := bA (bG BK547 hg); clear BK546; clear BK547; clear HB; have BK546 := n0_; have BK547 := n1_; have HB := n2_; have BK559 := n3_; have GW559 := n4_; have GE559 := n5_; have NB546_559 := n6_; have NB559_546 := n7_; have NB547_559 := n8_; have NB559_547 := n9_; clear n0_ n1_ n2_ n3_ n4_ n5_ n6_ n7_ n8_ n9_; clear hb hbox hg; have hnb39 := NB559_546.out; have hnc39 := NB546_559.out; have hnb40 := NB559_547.out; have hnc40 := NB547_559.out; obtain ⟨hcz41_0, hcz41_1, hcz41_2, hcz41_3, hfz41_0, hfz41_1, hfz41_2, hfz41_3⟩ := bc4 BK559))
  (try simp only [Act.put, List.setIfInBounds_toArray, List.set_cons_zero, List.set_cons_succ])
  go_cut [76] (fun v76 wc => ∃ (kq : Nat) (x76_35 : Bool), v76 = .bool x76_35 ∧ Aside0 (apogeelaw11_PolyWays.j1 kq l0 x76_35 a1_0 a1_1 a2_0 a2_1 = some r) ∧ Aside0 (kq ≤ kj3) ∧ Aside0 (wc.heap[gb546]? = some (.cells #[.int .i64 a1_0, .int .i64 a1_1] 41 (0, 0))) ∧ Aside0 (wc.heap[gb547]? = some (.cells #[.int .i64 a2_0, .int .i64 a2_1] 41 (0, 0))) ∧ Aside0 (wc.heap[gb559]? = some (.cells #[.int .i64 t554, .int .i64 t555, .int .i64 t556, .int .i64 t557] 44 (0, 0))) ∧ Aside0 (Below w.heap.size w wc))
  case first =>
   have H := HC36.out
   clear HC36
   by_cases c42 : a1_0 < t554
   rw [if_pos c42] at H
   have c42b0 : decide (a1_0 < t554) = true := decide_eq_true c42
   clear c42
   (first | rw [c42b0] | (simp only [i64_w, i32_w]; rw [c42b0]) | skip)
   replace H := Option.bind_eq_some_iff.mp H
   obtain ⟨t560, A430, H⟩ := H
   have A43 := bA A430
   clear A430
   have H' := bA H
   clear H
   have hnb44 := NB546_547.out
   have hnc44 := NB547_546.out
   have hnb45 := NB546_559.out
   have hnc45 := NB559_546.out
   obtain ⟨hcz46_0, hcz46_1, hfz46_0, hfz46_1⟩ := bc2 BK546
   have hnb47 := NB559_547.out
   have hnc47 := NB547_559.out
   obtain ⟨hcz48_0, hcz48_1, hcz48_2, hcz48_3, hfz48_0, hfz48_1, hfz48_2, hfz48_3⟩ := bc4 BK559
   rotate_left
   rw [if_neg c42] at H
   have c42b0 : decide (a1_0 < t554) = false := decide_eq_false c42
   clear c42
   (first | rw [c42b0] | (simp only [i64_w, i32_w]; rw [c42b0]) | skip)
   by_cases c50 : a1_0 > t556
   rw [if_pos c50] at H
   have c50b0 : decide (t556 < a1_0) = true := decide_eq_true c50
   clear c50
   replace H := Option.bind_eq_some_iff.mp H
   obtain ⟨t561, A510, H⟩ := H
   have A51 := bA A510
   clear A510
   have H' := bA H
   clear H
   have hnb52 := NB546_547.out
   have hnc52 := NB547_546.out
   have hnb53 := NB546_559.out
   have hnc53 := NB559_546.out
   obtain ⟨hcz54_0, hcz54_1, hfz54_0, hfz54_1⟩ := bc2 BK546
   have hnb55 := NB559_547.out
   have hnc55 := NB547_559.out
   obtain ⟨hcz56_0, hcz56_1, hcz56_2, hcz56_3, hfz56_0, hfz56_1, hfz56_2, hfz56_3⟩ := bc4 BK559
   rotate_left
   rw [if_neg c50] at H
   have c50b0 : decide (t556 < a1_0) = false := decide_eq_false c50
   clear c50
   by_cases c58 : a1_1 < t555
   rw [if_pos c58] at H
   have c58b0 : decide (a1_1 < t555) = true := decide_eq_true c58
   clear c58
   replace H := Option.bind_eq_some_iff.mp H
   obtain ⟨t562, A590, H⟩ := H
   have A59 := bA A590
   clear A590
   have H' := bA H
   clear H
   have hnb60 := NB546_547.out
   have hnc60 := NB547_546.out
   have hnb61 := NB546_559.out
   have hnc61 := NB559_546.out
   obtain ⟨hcz62_0, hcz62_1, hfz62_0, hfz62_1⟩ := bc2 BK546
   have hnb63 := NB559_547.out
   have hnc63 := NB547_559.out
   obtain ⟨hcz64_0, hcz64_1, hcz64_2, hcz64_3, hfz64_0, hfz64_1, hfz64_2, hfz64_3⟩ := bc4 BK559
   rotate_left
   rw [if_neg c58] at H
   have c58b0 : decide (a1_1 < t555) = false := decide_eq_false c58
   clear c58
   by_cases c66 : a1_1 > t557
   rw [if_pos c66] at H
   have c66b0 : decide (t557 < a1_1) = true := decide_eq_true c66
   clear c66
   replace H := Option.bind_eq_some_iff.mp H
   obtain ⟨t563, A670, H⟩ := H
   have A67 := bA A670
   clear A670
   have H' := bA H
   clear H
   have hnb68 := NB546_547.out
   have hnc68 := NB547_546.out
   have hnb69 := NB546_559.out
   have hnc69 := NB559_546.out
   obtain ⟨hcz70_0, hcz70_1, hfz70_0, hfz70_1⟩ := bc2 BK546
   have hnb71 := NB559_547.out
   have hnc71 := NB547_559.out
   obtain ⟨hcz72_0, hcz72_1, hcz72_2, hcz72_3, hfz72_0, hfz72_1, hfz72_2, hfz72_3⟩ := bc4 BK559
   rotate_left
   rw [if_neg c66] at H
   have c66b0 : decide (t557 < a1_1) = false := decide_eq_false c66
   clear c66
   have H' := bA H
   clear H
   have hnb74 := NB546_547.out
   have hnc74 := NB547_546.out
   have hnb75 := NB546_559.out
   have hnc75 := NB559_546.out
   obtain ⟨hcz76_0, hcz76_1, hfz76_0, hfz76_1⟩ := bc2 BK546
   have hnb77 := NB559_547.out
   have hnc77 := NB547_559.out
   obtain ⟨hcz78_0, hcz78_1, hcz78_2, hcz78_3, hfz78_0, hfz78_1, hfz78_2, hfz78_3⟩ := bc4 BK559
   rotate_left
   all_goals go_wp2_with (first | (go_at_call 32; (with_reducible refine (poly_Side.calls kj3 _ _ l0 a1_0 a1_1 t560 _ ?side1 ?side2 A43.out).mono ?_); (case side1 => exact Kd.C_below HR0.out bX); (case side2 => exact HC0.out); rintro e wz0 ⟨rfl, hb⟩; replace BK546 := bA (blk_below (g := gb546) (o := .cells #[.int .i64 a1_0, .int .i64 a1_1] 41 (0, 0)) (by (repeat ((with_reducible repeat (first | refine blk_drewN ?_ _ | refine blk_drew ?_ | refine blk_alloc ?_ _)); refine blk_far ?_ NB546_559.out _)); (with_reducible repeat (first | refine blk_drewN ?_ _ | refine blk_drew ?_ | refine blk_alloc ?_ _)); exact BK546.out) hb); replace BK547 := bA (blk_below (g := gb547) (o := .cells #[.int .i64 a2_0, .int .i64 a2_1] 41 (0, 0)) (by (repeat ((with_reducible repeat (first | refine blk_drewN ?_ _ | refine blk_drew ?_ | refine blk_alloc ?_ _)); refine blk_far ?_ NB547_559.out _)); (with_reducible repeat (first | refine blk_drewN ?_ _ | refine blk_drew ?_ | refine blk_alloc ?_ _)); exact BK547.out) hb); replace BK559 := bA (blk_below (g := gb559) (o := .cells #[.int .i64 t554, .int .i64 t555, .int .i64 t556, .int .i64 t557] 44 (0, 0)) (by (with_reducible repeat (first | refine blk_drewN ?_ _ | refine blk_drew ?_ | refine blk_alloc ?_ _)); refine blk_put (cs := #[.int .i64 t554, .int .i64 t555, .int .i64 t556, .int .i64 0]) ?_ 3 _ rfl; (with_reducible repeat (first | refine blk_drewN ?_ _ | refine blk_drew ?_ | refine blk_alloc ?_ _)); refine blk_put (cs := #[.int .i64 t554, .int .i64 t555, .int .i64 0, .int .i64 0]) ?_ 2 _ rfl; (with_reducible repeat (first | refine blk_drewN ?_ _ | refine blk_drew ?_ | refine blk_alloc ?_ _)); refine blk_put (cs := #[.int .i64 t554, .int .i64 0, .int .i64 0, .int .i64 0]) ?_ 1 _ rfl; (with_reducible repeat (first | refine blk_drewN ?_ _ | refine blk_drew ?_ | refine blk_alloc ?_ _)); refine blk_put (cs := #[.int .i64 0, .int .i64 0, .int .i64 0, .int .i64 0]) ?_ 0 _ rfl; (with_reducible repeat (first | refine blk_drewN ?_ _ | refine blk_drew ?_ | refine blk_alloc ?_ _)); exact BK559.out) hb); replace HB := bA (bS hb); (try clear hb)) | (go_at_call 32; (with_reducible refine (poly_Side.calls kj3 _ _ l0 a1_0 a1_1 t561 _ ?side1 ?side2 A51.out).mono ?_); (case side1 => exact Kd.C_below HR0.out bX); (case side2 => exact HC0.out); rintro e wz0 ⟨rfl, hb⟩; replace BK546 := bA (blk_below (g := gb546) (o := .cells #[.int .i64 a1_0, .int .i64 a1_1] 41 (0, 0)) (by (repeat ((with_reducible repeat (first | refine blk_drewN ?_ _ | refine blk_drew ?_ | refine blk_alloc ?_ _)); refine blk_far ?_ NB546_559.out _)); (with_reducible repeat (first | refine blk_drewN ?_ _ | refine blk_drew ?_ | refine blk_alloc ?_ _)); exact BK546.out) hb); replace BK547 := bA (blk_below (g := gb547) (o := .cells #[.int .i64 a2_0, .int .i64 a2_1] 41 (0, 0)) (by (repeat ((with_reducible repeat (first | refine blk_drewN ?_ _ | refine blk_drew ?_ | refine blk_alloc ?_ _)); refine blk_far ?_ NB547_559.out _)); (with_reducible repeat (first | refine blk_drewN ?_ _ | refine blk_drew ?_ | refine blk_alloc ?_ _)); exact BK547.out) hb); replace BK559 := bA (blk_below (g := gb559) (o := .cells #[.int .i64 t554, .int .i64 t555, .int .i64 t556, .int .i64 t557] 44 (0, 0)) (by (with_reducible repeat (first | refine blk_drewN ?_ _ | refine blk_drew ?_ | refine blk_alloc ?_ _)); refine blk_put (cs := #[.int .i64 t554, .int .i64 t555, .int .i64 t556, .int .i64 0]) ?_ 3 _ rfl; (with_reducible repeat (first | refine blk_drewN ?_ _ | refine blk_drew ?_ | refine blk_alloc ?_ _)); refine blk_put (cs := #[.int .i64 t554, .int .i64 t555, .int .i64 0, .int .i64 0]) ?_ 2 _ rfl; (with_reducible repeat (first | refine blk_drewN ?_ _ | refine blk_drew ?_ | refine blk_alloc ?_ _)); refine blk_put (cs := #[.int .i64 t554, .int .i64 0, .int .i64 0, .int .i64 0]) ?_ 1 _ rfl; (with_reducible repeat (first | refine blk_drewN ?_ _ | refine blk_drew ?_ | refine blk_alloc ?_ _)); refine blk_put (cs := #[.int .i64 0, .int .i64 0, .int .i64 0, .int .i64 0]) ?_ 0 _ rfl; (with_reducible repeat (first | refine blk_drewN ?_ _ | refine blk_drew ?_ | refine blk_alloc ?_ _)); exact BK559.out) hb); replace HB := bA (bS hb); (try clear hb)) | (go_at_call 32; (with_reducible refine (poly_Side.calls kj3 _ _ l0 a1_0 a1_1 t562 _ ?side1 ?side2 A59.out).mono ?_); (case side1 => exact Kd.C_below HR0.out bX); (case side2 => exact HC0.out); rintro e wz0 ⟨rfl, hb⟩; replace BK546 := bA (blk_below (g := gb546) (o := .cells #[.int .i64 a1_0, .int .i64 a1_1] 41 (0, 0)) (by (repeat ((with_reducible repeat (first | refine blk_drewN ?_ _ | refine blk_drew ?_ | refine blk_alloc ?_ _)); refine blk_far ?_ NB546_559.out _)); (with_reducible repeat (first | refine blk_drewN ?_ _ | refine blk_drew ?_ | refine blk_alloc ?_ _)); exact BK546.out) hb); replace BK547 := bA (blk_below (g := gb547) (o := .cells #[.int .i64 a2_0, .int .i64 a2_1] 41 (0, 0)) (by (repeat ((with_reducible repeat (first | refine blk_drewN ?_ _ | refine blk_drew ?_ | refine blk_alloc ?_ _)); refine blk_far ?_ NB547_559.out _)); (with_reducible repeat (first | refine blk_drewN ?_ _ | refine blk_drew ?_ | refine blk_alloc ?_ _)); exact BK547.out) hb); replace BK559 := bA (blk_below (g := gb559) (o := .cells #[.int .i64 t554, .int .i64 t555, .int .i64 t556, .int .i64 t557] 44 (0, 0)) (by (with_reducible repeat (first | refine blk_drewN ?_ _ | refine blk_drew ?_ | refine blk_alloc ?_ _)); refine blk_put (cs := #[.int .i64 t554, .int .i64 t555, .int .i64 t556, .int .i64 0]) ?_ 3 _ rfl; (with_reducible repeat (first | refine blk_drewN ?_ _ | refine blk_drew ?_ | refine blk_alloc ?_ _)); refine blk_put (cs := #[.int .i64 t554, .int .i64 t555, .int .i64 0, .int .i64 0]) ?_ 2 _ rfl; (with_reducible repeat (first | refine blk_drewN ?_ _ | refine blk_drew ?_ | refine blk_alloc ?_ _)); refine blk_put (cs := #[.int .i64 t554, .int .i64 0, .int .i64 0, .int .i64 0]) ?_ 1 _ rfl; (with_reducible repeat (first | refine blk_drewN ?_ _ | refine blk_drew ?_ | refine blk_alloc ?_ _)); refine blk_put (cs := #[.int .i64 0, .int .i64 0, .int .i64 0, .int .i64 0]) ?_ 0 _ rfl; (with_reducible repeat (first | refine blk_drewN ?_ _ | refine blk_drew ?_ | refine blk_alloc ?_ _)); exact BK559.out) hb); replace HB := bA (bS hb); (try clear hb)) | (go_at_call 32; (with_reducible refine (poly_Side.calls kj3 _ _ l0 a1_0 a1_1 t563 _ ?side1 ?side2 A67.out).mono ?_); (case side1 => exact Kd.C_below HR0.out bX); (case side2 => exact HC0.out); rintro e wz0 ⟨rfl, hb⟩; replace BK546 := bA (blk_below (g := gb546) (o := .cells #[.int .i64 a1_0, .int .i64 a1_1] 41 (0, 0)) (by (repeat ((with_reducible repeat (first | refine blk_drewN ?_ _ | refine blk_drew ?_ | refine blk_alloc ?_ _)); refine blk_far ?_ NB546_559.out _)); (with_reducible repeat (first | refine blk_drewN ?_ _ | refine blk_drew ?_ | refine blk_alloc ?_ _)); exact BK546.out) hb); replace BK547 := bA (blk_below (g := gb547) (o := .cells #[.int .i64 a2_0, .int .i64 a2_1] 41 (0, 0)) (by (repeat ((with_reducible repeat (first | refine blk_drewN ?_ _ | refine blk_drew ?_ | refine blk_alloc ?_ _)); refine blk_far ?_ NB547_559.out _)); (with_reducible repeat (first | refine blk_drewN ?_ _ | refine blk_drew ?_ | refine blk_alloc ?_ _)); exact BK547.out) hb); replace BK559 := bA (blk_below (g := gb559) (o := .cells #[.int .i64 t554, .int .i64 t555, .int .i64 t556, .int .i64 t557] 44 (0, 0)) (by (with_reducible repeat (first | refine blk_drewN ?_ _ | refine blk_drew ?_ | refine blk_alloc ?_ _)); refine blk_put (cs := #[.int .i64 t554, .int .i64 t555, .int .i64 t556, .int .i64 0]) ?_ 3 _ rfl; (with_reducible repeat (first | refine blk_drewN ?_ _ | refine blk_drew ?_ | refine blk_alloc ?_ _)); refine blk_put (cs := #[.int .i64 t554, .int .i64 t555, .int .i64 0, .int .i64 0]) ?_ 2 _ rfl; (with_reducible repeat (first | refine blk_drewN ?_ _ | refine blk_drew ?_ | refine blk_alloc ?_ _)); refine blk_put (cs := #[.int .i64 t554, .int .i64 0, .int .i64 0, .int .i64 0]) ?_ 1 _ rfl; (with_reducible repeat (first | refine blk_drewN ?_ _ | refine blk_drew ?_ | refine blk_alloc ?_ _)); refine blk_put (cs := #[.int .i64 0, .int .i64 0, .int .i64 0, .int .i64 0]) ?_ 0 _ rfl; (with_reducible repeat (first | refine blk_drewN ?_ _ | refine blk_drew ?_ | refine blk_alloc ?_ _)); exact BK559.out) hb); replace HB := bA (bS hb); (try clear hb)))
   ·go_meet
    case rel => exact ⟨_, ((t560 != (-1))), bs, H', ⟨by have := HJ3.out; first | omega | exact Nat.le_refl _⟩, ⟨by (with_reducible repeat (first | refine blk_drewN ?_ _ | refine blk_drew ?_ | refine blk_alloc ?_ _)); exact BK546.out⟩, ⟨by (with_reducible repeat (first | refine blk_drewN ?_ _ | refine blk_drew ?_ | refine blk_alloc ?_ _)); exact BK547.out⟩, ⟨by (with_reducible repeat (first | refine blk_drewN ?_ _ | refine blk_drew ?_ | refine blk_alloc ?_ _)); exact BK559.out⟩, ⟨bX⟩⟩
   ·go_meet
    case rel => exact ⟨_, ((t561 != (-1))), bs, H', ⟨by have := HJ3.out; first | omega | exact Nat.le_refl _⟩, ⟨by (with_reducible repeat (first | refine blk_drewN ?_ _ | refine blk_drew ?_ | refine blk_alloc ?_ _)); exact BK546.out⟩, ⟨by (with_reducible repeat (first | refine blk_drewN ?_ _ | refine blk_drew ?_ | refine blk_alloc ?_ _)); exact BK547.out⟩, ⟨by (with_reducible repeat (first | refine blk_drewN ?_ _ | refine blk_drew ?_ | refine blk_alloc ?_ _)); exact BK559.out⟩, ⟨bX⟩⟩
   ·go_meet
    case rel => exact ⟨_, ((t562 != (-1))), bs, H', ⟨by have := HJ3.out; first | omega | exact Nat.le_refl _⟩, ⟨by (with_reducible repeat (first | refine blk_drewN ?_ _ | refine blk_drew ?_ | refine blk_alloc ?_ _)); exact BK546.out⟩, ⟨by (with_reducible repeat (first | refine blk_drewN ?_ _ | refine blk_drew ?_ | refine blk_alloc ?_ _)); exact BK547.out⟩, ⟨by (with_reducible repeat (first | refine blk_drewN ?_ _ | refine blk_drew ?_ | refine blk_alloc ?_ _)); exact BK559.out⟩, ⟨bX⟩⟩
   ·go_meet
    case rel => exact ⟨_, ((t563 != (-1))), bs, H', ⟨by have := HJ3.out; first | omega | exact Nat.le_refl _⟩, ⟨by (with_reducible repeat (first | refine blk_drewN ?_ _ | refine blk_drew ?_ | refine blk_alloc ?_ _)); exact BK546.out⟩, ⟨by (with_reducible repeat (first | refine blk_drewN ?_ _ | refine blk_drew ?_ | refine blk_alloc ?_ _)); exact BK547.out⟩, ⟨by (with_reducible repeat (first | refine blk_drewN ?_ _ | refine blk_drew ?_ | refine blk_alloc ?_ _)); exact BK559.out⟩, ⟨bX⟩⟩
   go_meet
   case rel => exact ⟨_, (false), bs, H', ⟨by have := HJ3.out; first | omega | exact Nat.le_refl _⟩, ⟨by (repeat ((with_reducible repeat (first | refine blk_drewN ?_ _ | refine blk_drew ?_ | refine blk_alloc ?_ _)); refine blk_far ?_ NB546_559.out _)); (with_reducible repeat (first | refine blk_drewN ?_ _ | refine blk_drew ?_ | refine blk_alloc ?_ _)); exact BK546.out⟩, ⟨by (repeat ((with_reducible repeat (first | refine blk_drewN ?_ _ | refine blk_drew ?_ | refine blk_alloc ?_ _)); refine blk_far ?_ NB547_559.out _)); (with_reducible repeat (first | refine blk_drewN ?_ _ | refine blk_drew ?_ | refine blk_alloc ?_ _)); exact BK547.out⟩, ⟨by (with_reducible repeat (first | refine blk_drewN ?_ _ | refine blk_drew ?_ | refine blk_alloc ?_ _)); refine blk_put (cs := #[.int .i64 t554, .int .i64 t555, .int .i64 t556, .int .i64 0]) ?_ 3 _ rfl; (with_reducible repeat (first | refine blk_drewN ?_ _ | refine blk_drew ?_ | refine blk_alloc ?_ _)); refine blk_put (cs := #[.int .i64 t554, .int .i64 t555, .int .i64 0, .int .i64 0]) ?_ 2 _ rfl; (with_reducible repeat (first | refine blk_drewN ?_ _ | refine blk_drew ?_ | refine blk_alloc ?_ _)); refine blk_put (cs := #[.int .i64 t554, .int .i64 0, .int .i64 0, .int .i64 0]) ?_ 1 _ rfl; (with_reducible repeat (first | refine blk_drewN ?_ _ | refine blk_drew ?_ | refine blk_alloc ?_ _)); refine blk_put (cs := #[.int .i64 0, .int .i64 0, .int .i64 0, .int .i64 0]) ?_ 0 _ rfl; (with_reducible repeat (first | refine blk_drewN ?_ _ | refine blk_drew ?_ | refine blk_alloc ?_ _)); exact BK559.out⟩, ⟨bX⟩⟩
  clear HC36
  try clear c1
  try clear c2
  try clear p2
  try clear c3
  try clear c4
  try clear c5
  try clear c6
  try clear c7
  try clear c8
  try clear c10
  try clear c12
  try clear c14
  try clear c18
  try clear c25
  try clear c27
  try clear c32
  try clear c39
  try clear c40
  try clear c42
  try clear c42b0
  try clear c44
  try clear c45
  try clear c47
  try clear c50
  try clear c50b0
  try clear c52
  try clear c53
  try clear c55
  try clear c58
  try clear c58b0
  try clear c60
  try clear c61
  try clear c63
  try clear c66
  try clear c66b0
  try clear c68
  try clear c69
  try clear c71
  try clear c74
  try clear c75
  try clear c77
  try clear hcz19_0
  try clear hcz19_1
  try clear hcz21_0
  try clear hcz21_1
  try clear hcz26_0
  try clear hcz26_1
  try clear hcz41_0
  try clear hcz41_1
  try clear hcz41_2
  try clear hcz41_3
  try clear hcz46_0
  try clear hcz46_1
  try clear hcz48_0
  try clear hcz48_1
  try clear hcz48_2
  try clear hcz48_3
  try clear hcz54_0
  try clear hcz54_1
  try clear hcz56_0
  try clear hcz56_1
  try clear hcz56_2
  try clear hcz56_3
  try clear hcz62_0
  try clear hcz62_1
  try clear hcz64_0
  try clear hcz64_1
  try clear hcz64_2
  try clear hcz64_3
  try clear hcz70_0
  try clear hcz70_1
  try clear hcz72_0
  try clear hcz72_1
  try clear hcz72_2
  try clear hcz72_3
  try clear hcz76_0
  try clear hcz76_1
  try clear hcz78_0
  try clear hcz78_1
  try clear hcz78_2
  try clear hcz78_3
  try clear hfz19_0
  try clear hfz19_1
  try clear hfz21_0
  try clear hfz21_1
  try clear hfz26_0
  try clear hfz26_1
  try clear hfz41_0
  try clear hfz41_1
  try clear hfz41_2
  try clear hfz41_3
  try clear hfz46_0
  try clear hfz46_1
  try clear hfz48_0
  try clear hfz48_1
  try clear hfz48_2
  try clear hfz48_3
  try clear hfz54_0
  try clear hfz54_1
  try clear hfz56_0
  try clear hfz56_1
  try clear hfz56_2
  try clear hfz56_3
  try clear hfz62_0
  try clear hfz62_1
  try clear hfz64_0
  try clear hfz64_1
  try clear hfz64_2
  try clear hfz64_3
  try clear hfz70_0
  try clear hfz70_1
  try clear hfz72_0
  try clear hfz72_1
  try clear hfz72_2
  try clear hfz72_3
  try clear hfz76_0
  try clear hfz76_1
  try clear hfz78_0
  try clear hfz78_1
  try clear hfz78_2
  try clear hfz78_3
  try clear p2
  obtain ⟨kq, x76_35, rfl, HA, HJ35, BK546, BK547, BK559, HB⟩ := hcut
  cases kq with
  | zero => exact absurd HA.out (by simp [apogeelaw11_PolyWays.j1])
  | succ kj35 =>
   have H := HA.out
   clear HA
   simp only [apogeelaw11_PolyWays.j1] at H
   by_cases c79 : x76_35 = true
   ·subst c79
    rw [if_pos rfl] at H
    exact absurd H (by simp)
   replace c79 := Bool.eq_false_iff.mpr c79
   subst c79
   rw [if_neg bn] at H
   have H' := bA H
   clear H
   go_wp2
   go_loopg [9, 79] kj35 (fun kq v9 v79 w' => ∃ (x9_3 : Bool) (x79_3 : Int), v9 = .bool x9_3 ∧ v79 = .int .i64 x79_3 ∧ Aside0 (apogeelaw11_PolyWays.l0 kq l0 x9_3 l0 (l0.length : Int) x79_3 a1_0 a1_1 a2_0 a2_1 = some r) ∧ Aside0 (kq ≤ kj35) ∧ Aside0 (w'.heap[gb546]? = some (.cells #[.int .i64 a1_0, .int .i64 a1_1] 41 (0, 0))) ∧ Aside0 (w'.heap[gb547]? = some (.cells #[.int .i64 a2_0, .int .i64 a2_1] 41 (0, 0))) ∧ Aside0 (w'.heap[gb559]? = some (.cells #[.int .i64 t554, .int .i64 t555, .int .i64 t556, .int .i64 t557] 44 (0, 0))) ∧ Aside0 (Below w.heap.size w w'))
   case atStart => exact ⟨(false), (0), bs, bs, H', ⟨Nat.le_refl _⟩, ⟨by (with_reducible repeat (first | refine blk_drewN ?_ _ | refine blk_drew ?_ | refine blk_alloc ?_ _)); exact BK546.out⟩, ⟨by (with_reducible repeat (first | refine blk_drewN ?_ _ | refine blk_drew ?_ | refine blk_alloc ?_ _)); exact BK547.out⟩, ⟨by (with_reducible repeat (first | refine blk_drewN ?_ _ | refine blk_drew ?_ | refine blk_alloc ?_ _)); exact BK559.out⟩, ⟨bX⟩⟩
   clear H'
   try clear c1
   try clear c2
   try clear p2
   try clear c3
   try clear c4
   try clear c5
   try clear c6
   try clear c7
   try clear c8
   try clear c10
   try clear c12
   try clear c14
   try clear c18
   try clear c25
   try clear c27
   try clear c32
   try clear c39
   try clear c40
   try clear c42
   try clear c42b0
   try clear c44
   try clear c45
   try clear c47
   try clear c50
   try clear c50b0
   try clear c52
   try clear c53
   try clear c55
   try clear c58
   try clear c58b0
   try clear c60
   try clear c61
   try clear c63
   try clear c66
   try clear c66b0
   try clear c68
   try clear c69
   try clear c71
   try clear c74
   try clear c75
   try clear c77
   try clear c79
   try clear hcz19_0
   try clear hcz19_1
   try clear hcz21_0
   try clear hcz21_1
   try clear hcz26_0
   try clear hcz26_1
   try clear hcz41_0
   try clear hcz41_1
   try clear hcz41_2
   try clear hcz41_3
   try clear hcz46_0
   try clear hcz46_1
   try clear hcz48_0
   try clear hcz48_1
   try clear hcz48_2
   try clear hcz48_3
   try clear hcz54_0
   try clear hcz54_1
   try clear hcz56_0
   try clear hcz56_1
   try clear hcz56_2
   try clear hcz56_3
   try clear hcz62_0
   try clear hcz62_1
   try clear hcz64_0
   try clear hcz64_1
   try clear hcz64_2
   try clear hcz64_3
   try clear hcz70_0
   try clear hcz70_1
   try clear hcz72_0
   try clear hcz72_1
   try clear hcz72_2
   try clear hcz72_3
   try clear hcz76_0
   try clear hcz76_1
   try clear hcz78_0
   try clear hcz78_1
   try clear hcz78_2
   try clear hcz78_3
   try clear hfz19_0
   try clear hfz19_1
   try clear hfz21_0
   try clear hfz21_1
   try clear hfz26_0
   try clear hfz26_1
   try clear hfz41_0
   try clear hfz41_1
   try clear hfz41_2
   try clear hfz41_3
   try clear hfz46_0
   try clear hfz46_1
   try clear hfz48_0
   try clear hfz48_1
   try clear hfz48_2
   try clear hfz48_3
   try clear hfz54_0
   try clear hfz54_1
   try clear hfz56_0
   try clear hfz56_1
   try clear hfz56_2
   try clear hfz56_3
   try clear hfz62_0
   try clear hfz62_1
   try clear hfz64_0
   try clear hfz64_1
   try clear hfz64_2
   try clear hfz64_3
   try clear hfz70_0
   try clear hfz70_1
   try clear hfz72_0
   try clear hfz72_1
   try clear hfz72_2
   try clear hfz72_3
   try clear hfz76_0
   try clear hfz76_1
   try clear hfz78_0
   try clear hfz78_1
   try clear hfz78_2
   try clear hfz78_3
   try clear p2
   obtain ⟨x9_3, x79_3, rfl, rfl, HA, HK3, BK546, BK547, BK559, HB⟩ := hrel
   cases gk with
   | zero => exact absurd HA.out (by simp [apogeelaw11_PolyWays.l0])
   | succ k3 =>
    have H := HA.out
    clear HA
    simp only [apogeelaw11_PolyWays.l0] at H
    by_cases c80 : x79_3 < (l0.length : Int)
    ·rw [if_pos c80] at H
     have c80b0 : decide (x79_3 < (l0.length : Int)) = true := decide_eq_true c80
     clear c80
     by_cases c81 : 0 ≤ x79_3
     rw [if_pos c81] at H
     have c81b0 : decide (0 ≤ x79_3) = true := decide_eq_true c81
     clear c81
     by_cases c82 : x79_3 < (l0.length : Int)
     rw [if_pos c82] at H
     have c82b0 : decide (x79_3 < (l0.length : Int)) = true := decide_eq_true c82
     clear c82
     by_cases c83 : (l0.length : Int) = 0
     rw [if_pos c83] at H
     exact absurd H (by simp)
     rw [if_neg c83] at H
     have c83b0 : ((l0.length : Int) == 0) = false := beq_eq_false_iff_ne.mpr c83
     have c83b1 : ((l0.length : Int) != 0) = true := bne_iff_ne.mpr c83
     have c83b2 : ¬ (l0 = []) := fun h_ => c83 (by rw [h_]; rfl)
     obtain ⟨ji84, hji84⟩ : ∃ j_ : Int, (Int.tmod (wrap64 (x79_3 + 1)) (l0.length : Int)) = j_ := ⟨_, rfl⟩
     replace H : (if 0 ≤ (ji84) then (if (ji84) < (l0.length : Int) then ((poly_Side.f k3 l0 ((rd_T41 l0 x79_3).f0) ((rd_T41 l0 x79_3).f1)).bind fun t571 => (if t571 = 0 then ((point_On.f k3 a1_0 a1_1 ((rd_T41 l0 x79_3).f0) ((rd_T41 l0 x79_3).f1) ((rd_T41 l0 (ji84)).f0) ((rd_T41 l0 (ji84)).f1)).bind fun t572 => (if t572 = true then ((poly_Side.f k3 l0 a1_0 a1_1).bind fun t573 => (if t573 = 0 then (if x9_3 = true then (apogeelaw11_PolyWays.l0 k3 l0 true l0 (l0.length : Int) (wrap64 (x79_3 + 1)) a1_0 a1_1 a2_0 a2_1) else ((point_Meet.f k3 a1_0 a1_1 a2_0 a2_1 ((rd_T41 l0 x79_3).f0) ((rd_T41 l0 x79_3).f1) ((rd_T41 l0 (ji84)).f0) ((rd_T41 l0 (ji84)).f1)).bind fun t574 => (apogeelaw11_PolyWays.l0 k3 l0 t574 l0 (l0.length : Int) (wrap64 (x79_3 + 1)) a1_0 a1_1 a2_0 a2_1))) else (none))) else (if x9_3 = true then (apogeelaw11_PolyWays.l0 k3 l0 true l0 (l0.length : Int) (wrap64 (x79_3 + 1)) a1_0 a1_1 a2_0 a2_1) else ((point_Meet.f k3 a1_0 a1_1 a2_0 a2_1 ((rd_T41 l0 x79_3).f0) ((rd_T41 l0 x79_3).f1) ((rd_T41 l0 (ji84)).f0) ((rd_T41 l0 (ji84)).f1)).bind fun t575 => (apogeelaw11_PolyWays.l0 k3 l0 t575 l0 (l0.length : Int) (wrap64 (x79_3 + 1)) a1_0 a1_1 a2_0 a2_1))))) else (none))) else (none)) else (none)) = some r := by first | (rw [hji84] at H; exact H) | (simp only [hji84] at H ⊢; exact H)
     by_cases c85 : 0 ≤ (ji84)
     rw [if_pos c85] at H
     have c85b0 : decide (0 ≤ (ji84)) = true := decide_eq_true c85
     clear c85
     by_cases c86 : (ji84) < (l0.length : Int)
     rw [if_pos c86] at H
     have c86b0 : decide ((ji84) < (l0.length : Int)) = true := decide_eq_true c86
     clear c86
     replace H := Option.bind_eq_some_iff.mp H
     obtain ⟨t571, A870, H⟩ := H
     have A87 := bA A870
     clear A870
     by_cases c88 : t571 = 0
     rw [if_pos c88] at H
     have c88b0 : (t571 == 0) = true := beq_iff_eq.mpr c88
     have c88b1 : (t571 != 0) = false := bne_eq_false_iff_eq.mpr c88
     clear c88
     replace H := Option.bind_eq_some_iff.mp H
     obtain ⟨t572, A890, H⟩ := H
     have A89 := bA A890
     clear A890
     by_cases c90 : t572 = true
     subst c90
     rw [if_pos rfl] at H
     replace H := Option.bind_eq_some_iff.mp H
     obtain ⟨t573, A910, H⟩ := H
     have A91 := bA A910
     clear A910
     by_cases c92 : t573 = 0
     rw [if_pos c92] at H
     have c92b0 : (t573 == 0) = true := beq_iff_eq.mpr c92
     have c92b1 : (t573 != 0) = false := bne_eq_false_iff_eq.mpr c92
     clear c92
     by_cases c93 : x9_3 = true
     subst c93
     rw [if_pos rfl] at H
     have H' := bA H
     clear H
     have p567 : 0 ≤ (x79_3 : Int) := bo
     have q567 : x79_3 < (l0.length : Int) := bo
     obtain ⟨ad567, e567, hx567_0, hx567_1⟩ := at_T41 HR0.out x79_3 p567 q567
     cases e567
     replace hx567_0 := bK hx567_0
     replace hx567_1 := bK hx567_1
     replace p567 := eq_true p567
     replace q567 := eq_true q567
     rotate_left
     replace c93 := Bool.eq_false_iff.mpr c93
     subst c93
     rw [if_neg bn] at H
     replace H := Option.bind_eq_some_iff.mp H
     obtain ⟨t574, A1150, H⟩ := H
     have A115 := bA A1150
     clear A1150
     have H' := bA H
     clear H
     have p567 : 0 ≤ (x79_3 : Int) := bo
     have q567 : x79_3 < (l0.length : Int) := bo
     obtain ⟨ad567, e567, hx567_0, hx567_1⟩ := at_T41 HR0.out x79_3 p567 q567
     cases e567
     replace hx567_0 := bK hx567_0
     replace hx567_1 := bK hx567_1
     replace p567 := eq_true p567
     replace q567 := eq_true q567
     rotate_left
     rw [if_neg c92] at H
     exact absurd H (by simp)
     replace c90 := Bool.eq_false_iff.mpr c90
     subst c90
     rw [if_neg bn] at H
     by_cases c143 : x9_3 = true
     subst c143
     rw [if_pos rfl] at H
     have H' := bA H
     clear H
     have p567 : 0 ≤ (x79_3 : Int) := bo
     have q567 : x79_3 < (l0.length : Int) := bo
     obtain ⟨ad567, e567, hx567_0, hx567_1⟩ := at_T41 HR0.out x79_3 p567 q567
     cases e567
     replace hx567_0 := bK hx567_0
     replace hx567_1 := bK hx567_1
     replace p567 := eq_true p567
     replace q567 := eq_true q567
     rotate_left
     replace c143 := Bool.eq_false_iff.mpr c143
     subst c143
     rw [if_neg bn] at H
     replace H := Option.bind_eq_some_iff.mp H
     obtain ⟨t575, A1630, H⟩ := H
     have A163 := bA A1630
     clear A1630
     have H' := bA H
     clear H
     have p567 : 0 ≤ (x79_3 : Int) := bo
     have q567 : x79_3 < (l0.length : Int) := bo
     obtain ⟨ad567, e567, hx567_0, hx567_1⟩ := at_T41 HR0.out x79_3 p567 q567
     cases e567
     replace hx567_0 := bK hx567_0
     replace hx567_1 := bK hx567_1
     replace p567 := eq_true p567
     replace q567 := eq_true q567
     rotate_left
     rw [if_neg c88] at H
     exact absurd H (by simp)
     rw [if_neg c86] at H
     exact absurd H (by simp)
     rw [if_neg c85] at H
     exact absurd H (by simp)
     rw [if_neg c82] at H
     exact absurd H (by simp)
     rw [if_neg c81] at H
     exact absurd H (by simp)
     all_goals go_wp2_with (first | ((with_reducible refine gate_dst (N := 11) rfl ?_); refine bE (N := 11) (cs := #[.int .i64 0, .int .i64 0]) (t := 41) ?_; intro gb568 hg wz0 hbox hb; have BK568 := bA (hbox); have GW568 := bA (bZ hg); have GE568 := bA (bZ hg); have NB546_568 := bA (bL BK546 hg); have NB568_546 := bA (bG BK546 hg); have NB547_568 := bA (bL BK547 hg); have NB568_547 := bA (bG BK547 hg); have NB559_568 := bA (bL BK559 hg); have NB568_559 := bA (bG BK559 hg); replace BK546 := bA (bB BK546 hb); replace BK547 := bA (bB BK547 hb); replace BK559 := bA (bB BK559 hb); replace HB := bA (bS hb); clear hb hbox hg; have hnb95 := NB568_546.out; have hnc95 := NB546_568.out; have hnb96 := NB568_547.out; have hnc96 := NB547_568.out; have hnb97 := NB568_559.out; have hnc97 := NB559_568.out; obtain ⟨hcz98_0, hcz98_1, hfz98_0, hfz98_1⟩ := bc2 BK568; have p569 : 0 ≤ ((ji84) : Int) := bo; have q569 : (ji84) < (l0.length : Int) := bo; obtain ⟨ad569, e569, hx569_0, hx569_1⟩ := at_T41 HR0.out (ji84) p569 q569; obtain rfl : ad567 = ad569 := (by injection e569); have hn569_0 : ad567.block ≠ gb568 := Nat.ne_of_lt (Nat.lt_of_lt_of_le (by have := World.block_lt_of_cell? _ _ hx569_0; first | rwa [add_block] at this | exact this) GW568.out); have hn569_1 : ad567.block ≠ gb568 := Nat.ne_of_lt (Nat.lt_of_lt_of_le (by have := World.block_lt_of_cell? _ _ hx569_0; first | rwa [add_block] at this | exact this) GW568.out); replace hx569_0 := bK hx569_0; replace hx569_1 := bK hx569_1; replace hx569_0 := (cell_far (p := ⟨gb568, 0, none⟩) (by first | (rw [add_block]; exact hn569_0) | (show (Addr.add _ _).block ≠ _; rw [add_block]; exact hn569_0) | exact hn569_0) (.int .i64 ((rd_T41 l0 x79_3).f0))).trans hx569_0; replace hx569_1 := (cell_far (p := ⟨gb568, 0, none⟩) (by first | (rw [add_block]; exact hn569_0) | (show (Addr.add _ _).block ≠ _; rw [add_block]; exact hn569_0) | exact hn569_0) (.int .i64 ((rd_T41 l0 x79_3).f0))).trans hx569_1; replace hx569_0 := (cell_far (p := ⟨gb568, 1, none⟩) (by first | (rw [add_block]; exact hn569_1) | (show (Addr.add _ _).block ≠ _; rw [add_block]; exact hn569_1) | exact hn569_1) (.int .i64 ((rd_T41 l0 x79_3).f1))).trans hx569_0; replace hx569_1 := (cell_far (p := ⟨gb568, 1, none⟩) (by first | (rw [add_block]; exact hn569_1) | (show (Addr.add _ _).block ≠ _; rw [add_block]; exact hn569_1) | exact hn569_1) (.int .i64 ((rd_T41 l0 x79_3).f1))).trans hx569_1; clear hn569_0; clear hn569_1; replace p569 := eq_true p569; replace q569 := eq_true q569) | ((with_reducible refine gate_dst (N := 12) rfl ?_); refine bE (N := 12) (cs := #[.int .i64 0, .int .i64 0]) (t := 41) ?_; intro gb570 hg wz1 hbox hb; have BK570 := bA (hbox); have GW570 := bA (bZ hg); have GE570 := bA (bZ hg); have NB546_570 := bA ((by rw [hg]; exact Nat.ne_of_lt (blk_lt (g := gb546) (o := .cells #[.int .i64 a1_0, .int .i64 a1_1] 41 (0, 0)) (by (repeat ((with_reducible repeat (first | refine blk_drewN ?_ _ | refine blk_drew ?_ | refine blk_alloc ?_ _)); refine blk_far ?_ NB546_568.out _)); (with_reducible repeat (first | refine blk_drewN ?_ _ | refine blk_drew ?_ | refine blk_alloc ?_ _)); exact BK546.out)) : gb546 ≠ gb570)); have NB570_546 := bA ((by rw [hg]; exact Nat.ne_of_gt (blk_lt (g := gb546) (o := .cells #[.int .i64 a1_0, .int .i64 a1_1] 41 (0, 0)) (by (repeat ((with_reducible repeat (first | refine blk_drewN ?_ _ | refine blk_drew ?_ | refine blk_alloc ?_ _)); refine blk_far ?_ NB546_568.out _)); (with_reducible repeat (first | refine blk_drewN ?_ _ | refine blk_drew ?_ | refine blk_alloc ?_ _)); exact BK546.out)) : gb570 ≠ gb546)); have NB547_570 := bA ((by rw [hg]; exact Nat.ne_of_lt (blk_lt (g := gb547) (o := .cells #[.int .i64 a2_0, .int .i64 a2_1] 41 (0, 0)) (by (repeat ((with_reducible repeat (first | refine blk_drewN ?_ _ | refine blk_drew ?_ | refine blk_alloc ?_ _)); refine blk_far ?_ NB547_568.out _)); (with_reducible repeat (first | refine blk_drewN ?_ _ | refine blk_drew ?_ | refine blk_alloc ?_ _)); exact BK547.out)) : gb547 ≠ gb570)); have NB570_547 := bA ((by rw [hg]; exact Nat.ne_of_gt (blk_lt (g := gb547) (o := .cells #[.int .i64 a2_0, .int .i64 a2_1] 41 (0, 0)) (by (repeat ((with_reducible repeat (first | refine blk_drewN ?_ _ | refine blk_drew ?_ | refine blk_alloc ?_ _)); refine blk_far ?_ NB547_568.out _)); (with_reducible repeat (first | refine blk_drewN ?_ _ | refine blk_drew ?_ | refine blk_alloc ?_ _)); exact BK547.out)) : gb570 ≠ gb547)); have NB559_570 := bA ((by rw [hg]; exact Nat.ne_of_lt (blk_lt (g := gb559) (o := .cells #[.int .i64 t554, .int .i64 t555, .int .i64 t556, .int .i64 t557] 44 (0, 0)) (by (repeat ((with_reducible repeat (first | refine blk_drewN ?_ _ | refine blk_drew ?_ | refine blk_alloc ?_ _)); refine blk_far ?_ NB559_568.out _)); (with_reducible repeat (first | refine blk_drewN ?_ _ | refine blk_drew ?_ | refine blk_alloc ?_ _)); exact BK559.out)) : gb559 ≠ gb570)); have NB570_559 := bA ((by rw [hg]; exact Nat.ne_of_gt (blk_lt (g := gb559) (o := .cells #[.int .i64 t554, .int .i64 t555, .int .i64 t556, .int .i64 t557] 44 (0, 0)) (by (repeat ((with_reducible repeat (first | refine blk_drewN ?_ _ | refine blk_drew ?_ | refine blk_alloc ?_ _)); refine blk_far ?_ NB559_568.out _)); (with_reducible repeat (first | refine blk_drewN ?_ _ | refine blk_drew ?_ | refine blk_alloc ?_ _)); exact BK559.out)) : gb570 ≠ gb559)); have NB568_570 := bA ((by rw [hg]; exact Nat.ne_of_lt (blk_lt (g := gb568) (o := .cells #[.int .i64 ((rd_T41 l0 x79_3).f0), .int .i64 ((rd_T41 l0 x79_3).f1)] 41 (0, 0)) (by (with_reducible repeat (first | refine blk_drewN ?_ _ | refine blk_drew ?_ | refine blk_alloc ?_ _)); refine blk_put (cs := #[.int .i64 ((rd_T41 l0 x79_3).f0), .int .i64 0]) ?_ 1 _ rfl; (with_reducible repeat (first | refine blk_drewN ?_ _ | refine blk_drew ?_ | refine blk_alloc ?_ _)); refine blk_put (cs := #[.int .i64 0, .int .i64 0]) ?_ 0 _ rfl; (with_reducible repeat (first | refine blk_drewN ?_ _ | refine blk_drew ?_ | refine blk_alloc ?_ _)); exact BK568.out)) : gb568 ≠ gb570)); have NB570_568 := bA ((by rw [hg]; exact Nat.ne_of_gt (blk_lt (g := gb568) (o := .cells #[.int .i64 ((rd_T41 l0 x79_3).f0), .int .i64 ((rd_T41 l0 x79_3).f1)] 41 (0, 0)) (by (with_reducible repeat (first | refine blk_drewN ?_ _ | refine blk_drew ?_ | refine blk_alloc ?_ _)); refine blk_put (cs := #[.int .i64 ((rd_T41 l0 x79_3).f0), .int .i64 0]) ?_ 1 _ rfl; (with_reducible repeat (first | refine blk_drewN ?_ _ | refine blk_drew ?_ | refine blk_alloc ?_ _)); refine blk_put (cs := #[.int .i64 0, .int .i64 0]) ?_ 0 _ rfl; (with_reducible repeat (first | refine blk_drewN ?_ _ | refine blk_drew ?_ | refine blk_alloc ?_ _)); exact BK568.out)) : gb570 ≠ gb568)); replace BK546 := bA (blk_below (g := gb546) (o := .cells #[.int .i64 a1_0, .int .i64 a1_1] 41 (0, 0)) (by (repeat ((with_reducible repeat (first | refine blk_drewN ?_ _ | refine blk_drew ?_ | refine blk_alloc ?_ _)); refine blk_far ?_ NB546_568.out _)); (with_reducible repeat (first | refine blk_drewN ?_ _ | refine blk_drew ?_ | refine blk_alloc ?_ _)); exact BK546.out) hb); replace BK547 := bA (blk_below (g := gb547) (o := .cells #[.int .i64 a2_0, .int .i64 a2_1] 41 (0, 0)) (by (repeat ((with_reducible repeat (first | refine blk_drewN ?_ _ | refine blk_drew ?_ | refine blk_alloc ?_ _)); refine blk_far ?_ NB547_568.out _)); (with_reducible repeat (first | refine blk_drewN ?_ _ | refine blk_drew ?_ | refine blk_alloc ?_ _)); exact BK547.out) hb); replace BK559 := bA (blk_below (g := gb559) (o := .cells #[.int .i64 t554, .int .i64 t555, .int .i64 t556, .int .i64 t557] 44 (0, 0)) (by (repeat ((with_reducible repeat (first | refine blk_drewN ?_ _ | refine blk_drew ?_ | refine blk_alloc ?_ _)); refine blk_far ?_ NB559_568.out _)); (with_reducible repeat (first | refine blk_drewN ?_ _ | refine blk_drew ?_ | refine blk_alloc ?_ _)); exact BK559.out) hb); replace BK568 := bA (blk_below (g := gb568) (o := .cells #[.int .i64 ((rd_T41 l0 x79_3).f0), .int .i64 ((rd_T41 l0 x79_3).f1)] 41 (0, 0)) (by (with_reducible repeat (first | refine blk_drewN ?_ _ | refine blk_drew ?_ | refine blk_alloc ?_ _)); refine blk_put (cs := #[.int .i64 ((rd_T41 l0 x79_3).f0), .int .i64 0]) ?_ 1 _ rfl; (with_reducible repeat (first | refine blk_drewN ?_ _ | refine blk_drew ?_ | refine blk_alloc ?_ _)); refine blk_put (cs := #[.int .i64 0, .int .i64 0]) ?_ 0 _ rfl; (with_reducible repeat (first | refine blk_drewN ?_ _ | refine blk_drew ?_ | refine blk_alloc ?_ _)); exact BK568.out) hb); replace HB := bA (bS hb); clear hb hbox hg; have hz1 := NB570_546.out; have hz2 := NB546_570.out; have hz3 := NB570_547.out; have hz4 := NB547_570.out; have hz5 := NB570_559.out; have hz6 := NB559_570.out; have hz7 := NB570_568.out; have hz8 := NB568_570.out; obtain ⟨hz9, hz10, hz11, hz12⟩ := bc2 BK570; obtain ⟨hz13, hz14, hz15, hz16⟩ := bc2 BK568) | ((first | ((with_reducible refine gate_callee (f := 32) rfl ?_); refine bC (some 94) Try.func32 #[.slice (some ad567) l0.length c0, .agg #[.int .i64 ((rd_T41 l0 x79_3).f0), .int .i64 ((rd_T41 l0 x79_3).f1)]] ?_) | go_at_call 32); (with_reducible refine (poly_Side.calls k3 _ _ l0 ((rd_T41 l0 x79_3).f0) ((rd_T41 l0 x79_3).f1) t571 _ ?side1 ?side2 A87.out).mono ?_); (case side1 => exact Kd.C_below HR0.out bX); (case side2 => exact HC0.out); rintro e wz2 ⟨rfl, hb⟩; (first | refine ⟨_, rfl, ?_⟩ | skip); replace BK546 := bA (blk_below (g := gb546) (o := .cells #[.int .i64 a1_0, .int .i64 a1_1] 41 (0, 0)) (by (repeat ((with_reducible repeat (first | refine blk_drewN ?_ _ | refine blk_drew ?_ | refine blk_alloc ?_ _)); refine blk_far ?_ NB546_570.out _)); (with_reducible repeat (first | refine blk_drewN ?_ _ | refine blk_drew ?_ | refine blk_alloc ?_ _)); exact BK546.out) hb); replace BK547 := bA (blk_below (g := gb547) (o := .cells #[.int .i64 a2_0, .int .i64 a2_1] 41 (0, 0)) (by (repeat ((with_reducible repeat (first | refine blk_drewN ?_ _ | refine blk_drew ?_ | refine blk_alloc ?_ _)); refine blk_far ?_ NB547_570.out _)); (with_reducible repeat (first | refine blk_drewN ?_ _ | refine blk_drew ?_ | refine blk_alloc ?_ _)); exact BK547.out) hb); replace BK559 := bA (blk_below (g := gb559) (o := .cells #[.int .i64 t554, .int .i64 t555, .int .i64 t556, .int .i64 t557] 44 (0, 0)) (by (repeat ((with_reducible repeat (first | refine blk_drewN ?_ _ | refine blk_drew ?_ | refine blk_alloc ?_ _)); refine blk_far ?_ NB559_570.out _)); (with_reducible repeat (first | refine blk_drewN ?_ _ | refine blk_drew ?_ | refine blk_alloc ?_ _)); exact BK559.out) hb); replace BK568 := bA (blk_below (g := gb568) (o := .cells #[.int .i64 ((rd_T41 l0 x79_3).f0), .int .i64 ((rd_T41 l0 x79_3).f1)] 41 (0, 0)) (by (repeat ((with_reducible repeat (first | refine blk_drewN ?_ _ | refine blk_drew ?_ | refine blk_alloc ?_ _)); refine blk_far ?_ NB568_570.out _)); (with_reducible repeat (first | refine blk_drewN ?_ _ | refine blk_drew ?_ | refine blk_alloc ?_ _)); exact BK568.out) hb); replace BK570 := bA (blk_below (g := gb570) (o := .cells #[.int .i64 ((rd_T41 l0 (ji84)).f0), .int .i64 ((rd_T41 l0 (ji84)).f1)] 41 (0, 0)) (by (with_reducible repeat (first | refine blk_drewN ?_ _ | refine blk_drew ?_ | refine blk_alloc ?_ _)); refine blk_put (cs := #[.int .i64 ((rd_T41 l0 (ji84)).f0), .int .i64 0]) ?_ 1 _ rfl; (with_reducible repeat (first | refine blk_drewN ?_ _ | refine blk_drew ?_ | refine blk_alloc ?_ _)); refine blk_put (cs := #[.int .i64 0, .int .i64 0]) ?_ 0 _ rfl; (with_reducible repeat (first | refine blk_drewN ?_ _ | refine blk_drew ?_ | refine blk_alloc ?_ _)); exact BK570.out) hb); replace HB := bA (bS hb); (try clear hb); have hz17 := NB546_547.out; have hz18 := NB547_546.out; have hz19 := NB546_559.out; have hz20 := NB559_546.out; obtain ⟨hz21, hz22, hz23, hz24⟩ := bc2 BK546; obtain ⟨hz25, hz26, hz15, hz16⟩ := bc2 BK568; obtain ⟨hz27, hz28, hz11, hz12⟩ := bc2 BK570) | (go_at_call 41; (with_reducible refine (point_On.calls k3 a1_0 a1_1 ((rd_T41 l0 x79_3).f0) ((rd_T41 l0 x79_3).f1) ((rd_T41 l0 (ji84)).f0) ((rd_T41 l0 (ji84)).f1) true _ A89.out).mono ?_); rintro e wz3 ⟨rfl, hb⟩; replace BK546 := bA (bB BK546 hb); replace BK547 := bA (bB BK547 hb); replace BK559 := bA (bB BK559 hb); replace BK568 := bA (bB BK568 hb); replace BK570 := bA (bB BK570 hb); replace HB := bA (bS hb); (try clear hb); obtain ⟨hz29, hz30, hz23, hz24⟩ := bc2 BK546) | (go_at_call 32; (with_reducible refine (poly_Side.calls k3 _ _ l0 a1_0 a1_1 t573 _ ?side1 ?side2 A91.out).mono ?_); (case side1 => exact bQ HR0); (case side2 => exact HC0.out); rintro e wz4 ⟨rfl, hb⟩; replace BK546 := bA (bB BK546 hb); replace BK547 := bA (bB BK547 hb); replace BK559 := bA (bB BK559 hb); replace BK568 := bA (bB BK568 hb); replace BK570 := bA (bB BK570 hb); replace HB := bA (bS hb); (try clear hb); obtain ⟨hz31, hz32, hz23, hz24⟩ := bc2 BK546; have hz33 := NB547_559.out; have hz34 := NB559_547.out; obtain ⟨hz35, hz36, hz37, hz38⟩ := bc2 BK547; obtain ⟨hz39, hz40, hz15, hz16⟩ := bc2 BK568; obtain ⟨hz41, hz42, hz11, hz12⟩ := bc2 BK570) | ((with_reducible refine gate_dst (N := 11) rfl ?_); refine bE (N := 11) (cs := #[.int .i64 0, .int .i64 0]) (t := 41) ?_; intro gb568 hg wz0 hbox hb; have BK568 := bA (hbox); have GW568 := bA (bZ hg); have GE568 := bA (bZ hg); have NB546_568 := bA (bL BK546 hg); have NB568_546 := bA (bG BK546 hg); have NB547_568 := bA (bL BK547 hg); have NB568_547 := bA (bG BK547 hg); have NB559_568 := bA (bL BK559 hg); have NB568_559 := bA (bG BK559 hg); replace BK546 := bA (bB BK546 hb); replace BK547 := bA (bB BK547 hb); replace BK559 := bA (bB BK559 hb); replace HB := bA (bS hb); clear hb hbox hg; have hnb117 := NB568_546.out; have hnc117 := NB546_568.out; have hnb118 := NB568_547.out; have hnc118 := NB547_568.out; have hnb119 := NB568_559.out; have hnc119 := NB559_568.out; obtain ⟨hcz120_0, hcz120_1, hfz120_0, hfz120_1⟩ := bc2 BK568; have p569 : 0 ≤ ((ji84) : Int) := bo; have q569 : (ji84) < (l0.length : Int) := bo; obtain ⟨ad569, e569, hx569_0, hx569_1⟩ := at_T41 HR0.out (ji84) p569 q569; obtain rfl : ad567 = ad569 := (by injection e569); have hn569_0 : ad567.block ≠ gb568 := Nat.ne_of_lt (Nat.lt_of_lt_of_le (by have := World.block_lt_of_cell? _ _ hx569_0; first | rwa [add_block] at this | exact this) GW568.out); have hn569_1 : ad567.block ≠ gb568 := Nat.ne_of_lt (Nat.lt_of_lt_of_le (by have := World.block_lt_of_cell? _ _ hx569_0; first | rwa [add_block] at this | exact this) GW568.out); replace hx569_0 := bK hx569_0; replace hx569_1 := bK hx569_1; replace hx569_0 := (cell_far (p := ⟨gb568, 0, none⟩) (by first | (rw [add_block]; exact hn569_0) | (show (Addr.add _ _).block ≠ _; rw [add_block]; exact hn569_0) | exact hn569_0) (.int .i64 ((rd_T41 l0 x79_3).f0))).trans hx569_0; replace hx569_1 := (cell_far (p := ⟨gb568, 0, none⟩) (by first | (rw [add_block]; exact hn569_0) | (show (Addr.add _ _).block ≠ _; rw [add_block]; exact hn569_0) | exact hn569_0) (.int .i64 ((rd_T41 l0 x79_3).f0))).trans hx569_1; replace hx569_0 := (cell_far (p := ⟨gb568, 1, none⟩) (by first | (rw [add_block]; exact hn569_1) | (show (Addr.add _ _).block ≠ _; rw [add_block]; exact hn569_1) | exact hn569_1) (.int .i64 ((rd_T41 l0 x79_3).f1))).trans hx569_0; replace hx569_1 := (cell_far (p := ⟨gb568, 1, none⟩) (by first | (rw [add_block]; exact hn569_1) | (show (Addr.add _ _).block ≠ _; rw [add_block]; exact hn569_1) | exact hn569_1) (.int .i64 ((rd_T41 l0 x79_3).f1))).trans hx569_1; clear hn569_0; clear hn569_1; replace p569 := eq_true p569; replace q569 := eq_true q569) | (go_at_call 42; (with_reducible refine (point_Meet.calls k3 a1_0 a1_1 a2_0 a2_1 ((rd_T41 l0 x79_3).f0) ((rd_T41 l0 x79_3).f1) ((rd_T41 l0 (ji84)).f0) ((rd_T41 l0 (ji84)).f1) t574 _ A115.out).mono ?_); rintro e wz5 ⟨rfl, hb⟩; replace BK546 := bA (bB BK546 hb); replace BK547 := bA (bB BK547 hb); replace BK559 := bA (bB BK559 hb); replace BK568 := bA (bB BK568 hb); replace BK570 := bA (bB BK570 hb); replace HB := bA (bS hb); (try clear hb)) | ((with_reducible refine gate_dst (N := 11) rfl ?_); refine bE (N := 11) (cs := #[.int .i64 0, .int .i64 0]) (t := 41) ?_; intro gb568 hg wz0 hbox hb; have BK568 := bA (hbox); have GW568 := bA (bZ hg); have GE568 := bA (bZ hg); have NB546_568 := bA (bL BK546 hg); have NB568_546 := bA (bG BK546 hg); have NB547_568 := bA (bL BK547 hg); have NB568_547 := bA (bG BK547 hg); have NB559_568 := bA (bL BK559 hg); have NB568_559 := bA (bG BK559 hg); replace BK546 := bA (bB BK546 hb); replace BK547 := bA (bB BK547 hb); replace BK559 := bA (bB BK559 hb); replace HB := bA (bS hb); clear hb hbox hg; have hnb145 := NB568_546.out; have hnc145 := NB546_568.out; have hnb146 := NB568_547.out; have hnc146 := NB547_568.out; have hnb147 := NB568_559.out; have hnc147 := NB559_568.out; obtain ⟨hcz148_0, hcz148_1, hfz148_0, hfz148_1⟩ := bc2 BK568; have p569 : 0 ≤ ((ji84) : Int) := bo; have q569 : (ji84) < (l0.length : Int) := bo; obtain ⟨ad569, e569, hx569_0, hx569_1⟩ := at_T41 HR0.out (ji84) p569 q569; obtain rfl : ad567 = ad569 := (by injection e569); have hn569_0 : ad567.block ≠ gb568 := Nat.ne_of_lt (Nat.lt_of_lt_of_le (by have := World.block_lt_of_cell? _ _ hx569_0; first | rwa [add_block] at this | exact this) GW568.out); have hn569_1 : ad567.block ≠ gb568 := Nat.ne_of_lt (Nat.lt_of_lt_of_le (by have := World.block_lt_of_cell? _ _ hx569_0; first | rwa [add_block] at this | exact this) GW568.out); replace hx569_0 := bK hx569_0; replace hx569_1 := bK hx569_1; replace hx569_0 := (cell_far (p := ⟨gb568, 0, none⟩) (by first | (rw [add_block]; exact hn569_0) | (show (Addr.add _ _).block ≠ _; rw [add_block]; exact hn569_0) | exact hn569_0) (.int .i64 ((rd_T41 l0 x79_3).f0))).trans hx569_0; replace hx569_1 := (cell_far (p := ⟨gb568, 0, none⟩) (by first | (rw [add_block]; exact hn569_0) | (show (Addr.add _ _).block ≠ _; rw [add_block]; exact hn569_0) | exact hn569_0) (.int .i64 ((rd_T41 l0 x79_3).f0))).trans hx569_1; replace hx569_0 := (cell_far (p := ⟨gb568, 1, none⟩) (by first | (rw [add_block]; exact hn569_1) | (show (Addr.add _ _).block ≠ _; rw [add_block]; exact hn569_1) | exact hn569_1) (.int .i64 ((rd_T41 l0 x79_3).f1))).trans hx569_0; replace hx569_1 := (cell_far (p := ⟨gb568, 1, none⟩) (by first | (rw [add_block]; exact hn569_1) | (show (Addr.add _ _).block ≠ _; rw [add_block]; exact hn569_1) | exact hn569_1) (.int .i64 ((rd_T41 l0 x79_3).f1))).trans hx569_1; clear hn569_0; clear hn569_1; replace p569 := eq_true p569; replace q569 := eq_true q569) | (go_at_call 41; (with_reducible refine (point_On.calls k3 a1_0 a1_1 ((rd_T41 l0 x79_3).f0) ((rd_T41 l0 x79_3).f1) ((rd_T41 l0 (ji84)).f0) ((rd_T41 l0 (ji84)).f1) false _ A89.out).mono ?_); rintro e wz3 ⟨rfl, hb⟩; replace BK546 := bA (bB BK546 hb); replace BK547 := bA (bB BK547 hb); replace BK559 := bA (bB BK559 hb); replace BK568 := bA (bB BK568 hb); replace BK570 := bA (bB BK570 hb); replace HB := bA (bS hb); (try clear hb); obtain ⟨hz29, hz30, hz23, hz24⟩ := bc2 BK546; have hz33 := NB547_559.out; have hz34 := NB559_547.out; obtain ⟨hz43, hz44, hz37, hz38⟩ := bc2 BK547; obtain ⟨hz45, hz46, hz15, hz16⟩ := bc2 BK568; obtain ⟨hz47, hz48, hz11, hz12⟩ := bc2 BK570) | ((with_reducible refine gate_dst (N := 11) rfl ?_); refine bE (N := 11) (cs := #[.int .i64 0, .int .i64 0]) (t := 41) ?_; intro gb568 hg wz0 hbox hb; have BK568 := bA (hbox); have GW568 := bA (bZ hg); have GE568 := bA (bZ hg); have NB546_568 := bA (bL BK546 hg); have NB568_546 := bA (bG BK546 hg); have NB547_568 := bA (bL BK547 hg); have NB568_547 := bA (bG BK547 hg); have NB559_568 := bA (bL BK559 hg); have NB568_559 := bA (bG BK559 hg); replace BK546 := bA (bB BK546 hb); replace BK547 := bA (bB BK547 hb); replace BK559 := bA (bB BK559 hb); replace HB := bA (bS hb); clear hb hbox hg; have hnb165 := NB568_546.out; have hnc165 := NB546_568.out; have hnb166 := NB568_547.out; have hnc166 := NB547_568.out; have hnb167 := NB568_559.out; have hnc167 := NB559_568.out; obtain ⟨hcz168_0, hcz168_1, hfz168_0, hfz168_1⟩ := bc2 BK568; have p569 : 0 ≤ ((ji84) : Int) := bo; have q569 : (ji84) < (l0.length : Int) := bo; obtain ⟨ad569, e569, hx569_0, hx569_1⟩ := at_T41 HR0.out (ji84) p569 q569; obtain rfl : ad567 = ad569 := (by injection e569); have hn569_0 : ad567.block ≠ gb568 := Nat.ne_of_lt (Nat.lt_of_lt_of_le (by have := World.block_lt_of_cell? _ _ hx569_0; first | rwa [add_block] at this | exact this) GW568.out); have hn569_1 : ad567.block ≠ gb568 := Nat.ne_of_lt (Nat.lt_of_lt_of_le (by have := World.block_lt_of_cell? _ _ hx569_0; first | rwa [add_block] at this | exact this) GW568.out); replace hx569_0 := bK hx569_0; replace hx569_1 := bK hx569_1; replace hx569_0 := (cell_far (p := ⟨gb568, 0, none⟩) (by first | (rw [add_block]; exact hn569_0) | (show (Addr.add _ _).block ≠ _; rw [add_block]; exact hn569_0) | exact hn569_0) (.int .i64 ((rd_T41 l0 x79_3).f0))).trans hx569_0; replace hx569_1 := (cell_far (p := ⟨gb568, 0, none⟩) (by first | (rw [add_block]; exact hn569_0) | (show (Addr.add _ _).block ≠ _; rw [add_block]; exact hn569_0) | exact hn569_0) (.int .i64 ((rd_T41 l0 x79_3).f0))).trans hx569_1; replace hx569_0 := (cell_far (p := ⟨gb568, 1, none⟩) (by first | (rw [add_block]; exact hn569_1) | (show (Addr.add _ _).block ≠ _; rw [add_block]; exact hn569_1) | exact hn569_1) (.int .i64 ((rd_T41 l0 x79_3).f1))).trans hx569_0; replace hx569_1 := (cell_far (p := ⟨gb568, 1, none⟩) (by first | (rw [add_block]; exact hn569_1) | (show (Addr.add _ _).block ≠ _; rw [add_block]; exact hn569_1) | exact hn569_1) (.int .i64 ((rd_T41 l0 x79_3).f1))).trans hx569_1; clear hn569_0; clear hn569_1; replace p569 := eq_true p569; replace q569 := eq_true q569) | (go_at_call 42; (with_reducible refine (point_Meet.calls k3 a1_0 a1_1 a2_0 a2_1 ((rd_T41 l0 x79_3).f0) ((rd_T41 l0 x79_3).f1) ((rd_T41 l0 (ji84)).f0) ((rd_T41 l0 (ji84)).f1) t575 _ A163.out).mono ?_); rintro e wz4 ⟨rfl, hb⟩; replace BK546 := bA (bB BK546 hb); replace BK547 := bA (bB BK547 hb); replace BK559 := bA (bB BK559 hb); replace BK568 := bA (bB BK568 hb); replace BK570 := bA (bB BK570 hb); replace HB := bA (bS hb); (try clear hb)))
     ·go_roundg k3
      case measure => have := HJ3.out; have := HJ35.out; have := HK3.out; omega
      case rel => exact ⟨(true), (wrap64 (x79_3 + 1)), bs, bs, H', ⟨by have := HJ3.out; have := HJ35.out; have := HK3.out; omega⟩, ⟨by (with_reducible repeat (first | refine blk_drewN ?_ _ | refine blk_drew ?_ | refine blk_alloc ?_ _)); exact BK546.out⟩, ⟨by (with_reducible repeat (first | refine blk_drewN ?_ _ | refine blk_drew ?_ | refine blk_alloc ?_ _)); exact BK547.out⟩, ⟨by (with_reducible repeat (first | refine blk_drewN ?_ _ | refine blk_drew ?_ | refine blk_alloc ?_ _)); exact BK559.out⟩, ⟨bX⟩⟩
     ·go_roundg k3
      case measure => have := HJ3.out; have := HJ35.out; have := HK3.out; omega
      case rel => exact ⟨(t574), (wrap64 (x79_3 + 1)), bs, bs, H', ⟨by have := HJ3.out; have := HJ35.out; have := HK3.out; omega⟩, ⟨by (with_reducible repeat (first | refine blk_drewN ?_ _ | refine blk_drew ?_ | refine blk_alloc ?_ _)); exact BK546.out⟩, ⟨by (with_reducible repeat (first | refine blk_drewN ?_ _ | refine blk_drew ?_ | refine blk_alloc ?_ _)); exact BK547.out⟩, ⟨by (with_reducible repeat (first | refine blk_drewN ?_ _ | refine blk_drew ?_ | refine blk_alloc ?_ _)); exact BK559.out⟩, ⟨bX⟩⟩
     ·go_roundg k3
      case measure => have := HJ3.out; have := HJ35.out; have := HK3.out; omega
      case rel => exact ⟨(true), (wrap64 (x79_3 + 1)), bs, bs, H', ⟨by have := HJ3.out; have := HJ35.out; have := HK3.out; omega⟩, ⟨by (with_reducible repeat (first | refine blk_drewN ?_ _ | refine blk_drew ?_ | refine blk_alloc ?_ _)); exact BK546.out⟩, ⟨by (with_reducible repeat (first | refine blk_drewN ?_ _ | refine blk_drew ?_ | refine blk_alloc ?_ _)); exact BK547.out⟩, ⟨by (with_reducible repeat (first | refine blk_drewN ?_ _ | refine blk_drew ?_ | refine blk_alloc ?_ _)); exact BK559.out⟩, ⟨bX⟩⟩
     go_roundg k3
     case measure => have := HJ3.out; have := HJ35.out; have := HK3.out; omega
     case rel => exact ⟨(t575), (wrap64 (x79_3 + 1)), bs, bs, H', ⟨by have := HJ3.out; have := HJ35.out; have := HK3.out; omega⟩, ⟨by (with_reducible repeat (first | refine blk_drewN ?_ _ | refine blk_drew ?_ | refine blk_alloc ?_ _)); exact BK546.out⟩, ⟨by (with_reducible repeat (first | refine blk_drewN ?_ _ | refine blk_drew ?_ | refine blk_alloc ?_ _)); exact BK547.out⟩, ⟨by (with_reducible repeat (first | refine blk_drewN ?_ _ | refine blk_drew ?_ | refine blk_alloc ?_ _)); exact BK559.out⟩, ⟨bX⟩⟩
    rw [if_neg c80] at H
    have c80b0 : decide (x79_3 < (l0.length : Int)) = false := decide_eq_false c80
    clear c80
    by_cases c189 : x9_3 = true
    ·subst c189
     rw [if_pos rfl] at H
     obtain rfl := Option.some.inj H
     try go_wp2
     replace BK546 := bA (blk_drew BK546.out)
     replace BK547 := bA (blk_drew BK547.out)
     replace BK559 := bA (blk_drew BK559.out)
     replace HB := bA (below_drew1 HB.out)
     refine start_ (n := 17) (S := fun w' => True) (ds := []) #[false,false,false,false,false,false,false,false,false,false,false,false,false,false,false,false,false] (by kernel_rfl) rfl rfl trivial (fun hHeld => ?_); refine with_tabW apogeelaw11_PolyWays.tab15 apogeelaw11_PolyWays.bits15 (fun HT_ HW_ => ?_)
     generalize wr.drew = w190 at BK546 BK547 BK559 HB hHeld ⊢
     refine bU (i := 0) (N := some 117) ?_
     refine bU (i := 1) (N := some 118) ?_
     refine pure_ (i := 2) (N := some 119) (v := undef) (a' := ?_) #[true,true,true,false,false,false,false,false,false,false,false,false,false,false,false,false,false] rfl rfl (any_of HT_.out (by kernel_rfl)) (fun _ _ _ h => h) (Or.inr ⟨by rfl, rfl⟩) ?_ ?_
     rotate_left
     ·simp only [Act.put, List.setIfInBounds_toArray, List.set_cons_zero, List.set_cons_succ, i64_w, i32_w]
      rfl
     refine pure_ (i := 3) (N := some 120) (v := undef) (a' := ?_) #[true,true,true,true,false,false,false,false,false,false,false,false,false,false,false,false,false] rfl rfl (any_of HT_.out (by kernel_rfl)) (fun _ _ _ h => h) (Or.inr ⟨by rfl, rfl⟩) ?_ ?_
     rotate_left
     ·simp only [Act.put, List.setIfInBounds_toArray, List.set_cons_zero, List.set_cons_succ, i64_w, i32_w]
      rfl
     refine pure_ (i := 4) (N := some 121) (v := undef) (a' := ?_) #[true,true,true,true,true,false,false,false,false,false,false,false,false,false,false,false,false] rfl rfl (any_of HT_.out (by kernel_rfl)) (fun _ _ _ h => h) (Or.inr ⟨by rfl, rfl⟩) ?_ ?_
     rotate_left
     ·simp only [Act.put, List.setIfInBounds_toArray, List.set_cons_zero, List.set_cons_succ, i64_w, i32_w]
      rfl
     refine pure_ (i := 5) (N := some 122) (v := undef) (a' := ?_) #[true,true,true,true,true,true,false,false,false,false,false,false,false,false,false,false,false] rfl rfl (any_of HT_.out (by kernel_rfl)) (fun _ _ _ h => h) (Or.inr ⟨by rfl, rfl⟩) ?_ ?_
     rotate_left
     ·simp only [Act.put, List.setIfInBounds_toArray, List.set_cons_zero, List.set_cons_succ, i64_w, i32_w]
      rfl
     refine pure_ (i := 6) (N := some 123) (v := undef) (a' := ?_) #[true,true,true,true,true,true,true,false,false,false,false,false,false,false,false,false,false] rfl rfl (any_of HT_.out (by kernel_rfl)) (fun _ _ _ h => h) (Or.inr ⟨by rfl, rfl⟩) ?_ ?_
     rotate_left
     ·simp only [Act.put, List.setIfInBounds_toArray, List.set_cons_zero, List.set_cons_succ, i64_w, i32_w]
      rfl
     refine pure_ (i := 7) (N := some 124) (v := undef) (a' := ?_) #[true,true,true,true,true,true,true,true,false,false,false,false,false,false,false,false,false] rfl rfl (any_of HT_.out (by kernel_rfl)) (fun _ _ _ h => h) (Or.inr ⟨by rfl, rfl⟩) ?_ ?_
     rotate_left
     ·simp only [Act.put, List.setIfInBounds_toArray, List.set_cons_zero, List.set_cons_succ, i64_w, i32_w]
      rfl
     refine pure_ (i := 8) (N := some 125) (v := undef) (a' := ?_) #[true,true,true,true,true,true,true,true,true,false,false,false,false,false,false,false,false] rfl rfl (any_of HT_.out (by kernel_rfl)) (fun _ _ _ h => h) (Or.inr ⟨by rfl, rfl⟩) ?_ ?_
     rotate_left
     ·simp only [Act.put, List.setIfInBounds_toArray, List.set_cons_zero, List.set_cons_succ, i64_w, i32_w]
      rfl
     refine pure_ (i := 9) (N := some 126) (v := undef) (a' := ?_) #[true,true,true,true,true,true,true,true,true,true,false,false,false,false,false,false,false] rfl rfl (any_of HT_.out (by kernel_rfl)) (fun _ _ _ h => h) (Or.inr ⟨by rfl, rfl⟩) ?_ ?_
     rotate_left
     ·simp only [Act.put, List.setIfInBounds_toArray, List.set_cons_zero, List.set_cons_succ, i64_w, i32_w]
      rfl
     refine pure_ (i := 10) (N := some 127) (v := undef) (a' := ?_) #[true,true,true,true,true,true,true,true,true,true,true,false,false,false,false,false,false] rfl rfl (any_of HT_.out (by kernel_rfl)) (fun _ _ _ h => h) (Or.inr ⟨by rfl, rfl⟩) ?_ ?_
     rotate_left
     ·simp only [Act.put, List.setIfInBounds_toArray, List.set_cons_zero, List.set_cons_succ, i64_w, i32_w]
      rfl
     refine pure_ (i := 11) (N := some 128) (v := undef) (a' := ?_) #[true,true,true,true,true,true,true,true,true,true,true,true,false,false,false,false,false] rfl rfl (any_of HT_.out (by kernel_rfl)) (fun _ _ _ h => h) (Or.inr ⟨by rfl, rfl⟩) ?_ ?_
     rotate_left
     ·simp only [Act.put, List.setIfInBounds_toArray, List.set_cons_zero, List.set_cons_succ, i64_w, i32_w]
      rfl
     refine pure_ (i := 12) (N := some 129) (v := undef) (a' := ?_) #[true,true,true,true,true,true,true,true,true,true,true,true,true,false,false,false,false] rfl rfl (any_of HT_.out (by kernel_rfl)) (fun _ _ _ h => h) (Or.inr ⟨by rfl, rfl⟩) ?_ ?_
     rotate_left
     ·simp only [Act.put, List.setIfInBounds_toArray, List.set_cons_zero, List.set_cons_succ, i64_w, i32_w]
      rfl
     refine pure_ (i := 13) (N := some 130) (v := undef) (a' := ?_) #[true,true,true,true,true,true,true,true,true,true,true,true,true,true,false,false,false] rfl rfl (any_of HT_.out (by kernel_rfl)) (fun _ _ _ h => h) (Or.inr ⟨by rfl, rfl⟩) ?_ ?_
     rotate_left
     ·simp only [Act.put, List.setIfInBounds_toArray, List.set_cons_zero, List.set_cons_succ, i64_w, i32_w]
      rfl
     refine pure_ (i := 14) (N := some 131) (v := undef) (a' := ?_) #[true,true,true,true,true,true,true,true,true,true,true,true,true,true,true,false,false] rfl rfl (any_of HT_.out (by kernel_rfl)) (fun _ _ _ h => h) (Or.inr ⟨by rfl, rfl⟩) ?_ ?_
     rotate_left
     ·simp only [Act.put, List.setIfInBounds_toArray, List.set_cons_zero, List.set_cons_succ, i64_w, i32_w]
      rfl
     refine bU (i := 15) (N := some 132) ?_
     refine bU (i := 16) (N := some 6) ?_
     refine done_ (done_of HT_.out (by kernel_rfl)) ?_
     try go_wp2
     go_ret
     exact bF
    replace c189 := Bool.eq_false_iff.mpr c189
    subst c189
    rw [if_neg bn] at H
    replace H := Option.bind_eq_some_iff.mp H
    obtain ⟨t564, A1910, H⟩ := H
    have A191 := bA A1910
    clear A1910
    replace H := Option.bind_eq_some_iff.mp H
    obtain ⟨t565, A1920, H⟩ := H
    have A192 := bA A1920
    clear A1920
    by_cases c193 : t564 = t565
    rotate_left
    ·rw [if_neg c193] at H
     have c193b0 : (t564 == t565) = false := beq_eq_false_iff_ne.mpr c193
     have c193b1 : (t564 != t565) = true := bne_iff_ne.mpr c193
     exact absurd H (by simp)
    rw [if_pos c193] at H
    have c193b0 : (t564 == t565) = true := beq_iff_eq.mpr c193
    have c193b1 : (t564 != t565) = false := bne_eq_false_iff_eq.mpr c193
    clear c193
    replace H := Option.bind_eq_some_iff.mp H
    obtain ⟨t566, A1940, H⟩ := H
    have A194 := bA A1940
    clear A1940
    obtain rfl := Option.some.inj H
    try go_wp2
    replace BK546 := bA (blk_drew BK546.out)
    replace BK547 := bA (blk_drew BK547.out)
    replace BK559 := bA (blk_drew BK559.out)
    replace HB := bA (below_drew1 HB.out)
    refine start_ (n := 17) (S := fun w' => w'.cell? ⟨gb546, 0, none⟩ = some (.int .i64 a1_0) ∧ w'.cell? ⟨gb546, 1, none⟩ = some (.int .i64 a1_1) ∧ w'.cell? ⟨gb547, 0, none⟩ = some (.int .i64 a2_0) ∧ w'.cell? ⟨gb547, 1, none⟩ = some (.int .i64 a2_1)) (ds := []) #[false,false,false,false,false,false,false,false,false,false,false,false,false,false,false,false,false] (by kernel_rfl) rfl rfl ⟨bq BK546 0, bq BK546 1, bq BK547 0, bq BK547 1⟩ (fun hHeld => ?_); refine with_tabW apogeelaw11_PolyWays.tab15 apogeelaw11_PolyWays.bits15 (fun HT_ HW_ => ?_)
    generalize wr.drew = w195 at BK546 BK547 BK559 HB hHeld ⊢
    refine bU (i := 0) (N := some 117) ?_
    refine bU (i := 1) (N := some 118) ?_
    refine bU (i := 2) (N := some 119) ?_
    refine bU (i := 5) (N := some 122) ?_
    refine bW (i := 3) (N := some 120) hHeld ?_
    refine bW (i := 6) (N := some 123) hHeld ?_
    refine one_ (i := 4) (N := some 121) #[true,true,true,true,true,true,true,false,false,false,false,false,false,false,false,false,false] rfl rfl (one_of HT_.out (by kernel_rfl)) (by decide) (fun K hK => ?_)
    refine goes_ Try.func32 (by kernel_rfl) rfl #[.slice A0 l0.length c0, .agg #[.int .i64 a1_0, .int .i64 a1_1]] (by rfl) rfl rfl (by (try simp only [List.map_toArray, List.map_cons, List.map_nil]); first | done | rfl | (simp only [List.length_drop, List.length_take]; rfl)) ?_
    with_reducible refine (poly_Side.calls k3 _ _ l0 a1_0 a1_1 t564 _ ?side1 ?side2 A191.out).mono ?_
    (case side1 => exact bQ HR0)
    (case side2 => exact HC0.out)
    rintro e w196 ⟨rfl, hb⟩
    refine ⟨_, rfl, ?_⟩
    replace BK546 := bA (bB BK546 hb)
    replace BK547 := bA (bB BK547 hb)
    replace BK559 := bA (bB BK559 hb)
    replace HB := bA (bS hb)
    (try clear hb)
    refine hK.out _ _ ⟨bq BK546 0, bq BK546 1, bq BK547 0, bq BK547 1⟩ (fun hHeld => ?_)
    clear hK K
    refine bH ?_
    refine one_ (i := 7) (N := some 124) #[true,true,true,true,true,true,true,true,false,false,false,false,false,false,false,false,false] rfl rfl (one_of HT_.out (by kernel_rfl)) (by decide) (fun K hK => ?_)
    refine goes_ Try.func32 (by kernel_rfl) rfl #[.slice A0 l0.length c0, .agg #[.int .i64 a2_0, .int .i64 a2_1]] (by rfl) rfl rfl (by (try simp only [List.map_toArray, List.map_cons, List.map_nil]); first | done | rfl | (simp only [List.length_drop, List.length_take]; rfl)) ?_
    with_reducible refine (poly_Side.calls k3 _ _ l0 a2_0 a2_1 t565 _ ?side1 ?side2 A192.out).mono ?_
    (case side1 => exact bQ HR0)
    (case side2 => exact HC0.out)
    rintro e w197 ⟨rfl, hb⟩
    refine ⟨_, rfl, ?_⟩
    replace BK546 := bA (bB BK546 hb)
    replace BK547 := bA (bB BK547 hb)
    replace BK559 := bA (bB BK559 hb)
    replace HB := bA (bS hb)
    (try clear hb)
    refine hK.out _ _ ⟨bq BK546 0, bq BK546 1, bq BK547 0, bq BK547 1⟩ (fun hHeld => ?_)
    clear hK K
    refine bH ?_
    refine bU (i := 8) (N := some 125) ?_
    refine bU (i := 9) (N := some 126) ?_
    refine bU (i := 10) (N := some 127) ?_
    refine bW (i := 11) (N := some 128) hHeld ?_
    refine one_ (i := 12) (N := some 129) #[true,true,true,true,true,true,true,true,true,true,true,true,true,false,false,false,false] rfl rfl (one_of HT_.out (by kernel_rfl)) (by decide) (fun K hK => ?_)
    refine goes_ Try.func32 (by kernel_rfl) rfl #[.slice A0 l0.length c0, .agg #[.int .i64 a1_0, .int .i64 a1_1]] (by rfl) rfl rfl (by (try simp only [List.map_toArray, List.map_cons, List.map_nil]); first | done | rfl | (simp only [List.length_drop, List.length_take]; rfl)) ?_
    with_reducible refine (poly_Side.calls k3 _ _ l0 a1_0 a1_1 t566 _ ?side1 ?side2 A194.out).mono ?_
    (case side1 => exact bQ HR0)
    (case side2 => exact HC0.out)
    rintro e w198 ⟨rfl, hb⟩
    refine ⟨_, rfl, ?_⟩
    replace BK546 := bA (bB BK546 hb)
    replace BK547 := bA (bB BK547 hb)
    replace BK559 := bA (bB BK559 hb)
    replace HB := bA (bS hb)
    (try clear hb)
    refine hK.out _ _ ⟨bq BK546 0, bq BK546 1, bq BK547 0, bq BK547 1⟩ (fun hHeld => ?_)
    clear hK K
    refine bH ?_
    refine bU (i := 13) (N := some 130) ?_
    refine bU (i := 14) (N := some 131) ?_
    refine bU (i := 15) (N := some 132) ?_
    refine bU (i := 16) (N := some 6) ?_
    refine done_ (done_of HT_.out (by kernel_rfl)) ?_
    try go_wp2
    go_ret
    exact bF
end Go.Proofs.Ytjmibjmlihmglaa.G
