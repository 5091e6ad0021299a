-- Written by a program of this session out of the translation; Lean checks it.
import Derived.Test.YtjmibjmlihmglaaGx0
import Derived.Test.YtjmibjmlihmglaaGx3
import Derived.Test.YtjmibjmlihmglaaGx11
import Derived.Test.YtjmibjmlihmglaaGx12
import Derived.Test.YtjmibjmlihmglaaGx14
import Derived.Test.YtjmibjmlihmglaaGx20
namespace Go.Proofs.Ytjmibjmlihmglaa.G
open Go.RowKit Go.Proofs.YtjmibjmlihmglaaW.PrintWords Go.Proofs.YtjmibjmlihmglaaW.PrintLast Go.Proofs.YtjmibjmlihmglaaW.PrintMore
attribute [local go_sem] max2_int min2_int max_two min_two max_three min_three max_four min_four   -- for this text's walks alone
set_option linter.unusedVariables false
set_option linter.unusedSimpArgs false

attribute [local go_sem high] eqA56
/-! ### apogeelaw11_PolyDown: function 9 -/
mutual
def apogeelaw11_PolyDown.j0 : Nat → List (S41) → Bool → Option (Bool)
 | 0, _, _ => none
 | k + 1, x0, x19 => if x19 = true then ((apogeelaw11_awake.f k).bind fun t579 => (some t579)) else ((poly_Bounds.f k x0).bind fun bt580 => (apogeelaw11_PolyDown.l0 k x0 bt580.2.2.2.2 x0 (x0.length : Int) 0 bt580.1 bt580.2.1 bt580.2.2.1 bt580.2.2.2.1 false false false false))
def apogeelaw11_PolyDown.l0 : Nat → List (S41) → Bool → List (S41) → Int → Int → Int → Int → Int → Int → Bool → Bool → Bool → Bool → Option (Bool)
 | 0, _, _, _, _, _, _, _, _, _, _, _, _, _ => none
 | k + 1, x0, x4, x27, x28, x29, x586000, x586001, x586002, x586003, x587000, x587001, x587002, x587003 => if x29 < x28 then (if 0 ≤ x29 then (if x29 < (x27.length : Int) then (if x587000 = true then (if x587001 = true then (if x587002 = true then (if x587003 = true then (if ((rd_T41 x27 x29).f0) < x586000 then (none) else (if ((rd_T41 x27 x29).f0) > x586002 then (none) else (if ((rd_T41 x27 x29).f1) < x586001 then (none) else (if ((rd_T41 x27 x29).f1) > x586003 then (none) else ((poly_Side.f k x0 ((rd_T41 x27 x29).f0) ((rd_T41 x27 x29).f1)).bind fun t589 => (if t589 < 0 then (none) else (apogeelaw11_PolyDown.l0 k x0 x4 x27 x28 (wrap64 (x29 + 1)) x586000 x586001 x586002 x586003 true true true true))))))) else (if ((rd_T41 x27 x29).f0) < x586000 then (none) else (if ((rd_T41 x27 x29).f0) > x586002 then (none) else (if ((rd_T41 x27 x29).f1) < x586001 then (none) else (if ((rd_T41 x27 x29).f1) > x586003 then (none) else ((poly_Side.f k x0 ((rd_T41 x27 x29).f0) ((rd_T41 x27 x29).f1)).bind fun t590 => (if t590 < 0 then (none) else (apogeelaw11_PolyDown.l0 k x0 x4 x27 x28 (wrap64 (x29 + 1)) x586000 x586001 x586002 x586003 true true true (((rd_T41 x27 x29).f1) == x586003))))))))) else (if x587003 = true then (if ((rd_T41 x27 x29).f0) < x586000 then (none) else (if ((rd_T41 x27 x29).f0) > x586002 then (none) else (if ((rd_T41 x27 x29).f1) < x586001 then (none) else (if ((rd_T41 x27 x29).f1) > x586003 then (none) else ((poly_Side.f k x0 ((rd_T41 x27 x29).f0) ((rd_T41 x27 x29).f1)).bind fun t591 => (if t591 < 0 then (none) else (apogeelaw11_PolyDown.l0 k x0 x4 x27 x28 (wrap64 (x29 + 1)) x586000 x586001 x586002 x586003 true true (((rd_T41 x27 x29).f1) == x586001) true))))))) else (if ((rd_T41 x27 x29).f0) < x586000 then (none) else (if ((rd_T41 x27 x29).f0) > x586002 then (none) else (if ((rd_T41 x27 x29).f1) < x586001 then (none) else (if ((rd_T41 x27 x29).f1) > x586003 then (none) else ((poly_Side.f k x0 ((rd_T41 x27 x29).f0) ((rd_T41 x27 x29).f1)).bind fun t592 => (if t592 < 0 then (none) else (apogeelaw11_PolyDown.l0 k x0 x4 x27 x28 (wrap64 (x29 + 1)) x586000 x586001 x586002 x586003 true true (((rd_T41 x27 x29).f1) == x586001) (((rd_T41 x27 x29).f1) == x586003)))))))))) else (if x587002 = true then (if x587003 = true then (if ((rd_T41 x27 x29).f0) < x586000 then (none) else (if ((rd_T41 x27 x29).f0) > x586002 then (none) else (if ((rd_T41 x27 x29).f1) < x586001 then (none) else (if ((rd_T41 x27 x29).f1) > x586003 then (none) else ((poly_Side.f k x0 ((rd_T41 x27 x29).f0) ((rd_T41 x27 x29).f1)).bind fun t593 => (if t593 < 0 then (none) else (apogeelaw11_PolyDown.l0 k x0 x4 x27 x28 (wrap64 (x29 + 1)) x586000 x586001 x586002 x586003 true (((rd_T41 x27 x29).f0) == x586002) true true))))))) else (if ((rd_T41 x27 x29).f0) < x586000 then (none) else (if ((rd_T41 x27 x29).f0) > x586002 then (none) else (if ((rd_T41 x27 x29).f1) < x586001 then (none) else (if ((rd_T41 x27 x29).f1) > x586003 then (none) else ((poly_Side.f k x0 ((rd_T41 x27 x29).f0) ((rd_T41 x27 x29).f1)).bind fun t594 => (if t594 < 0 then (none) else (apogeelaw11_PolyDown.l0 k x0 x4 x27 x28 (wrap64 (x29 + 1)) x586000 x586001 x586002 x586003 true (((rd_T41 x27 x29).f0) == x586002) true (((rd_T41 x27 x29).f1) == x586003))))))))) else (if x587003 = true then (if ((rd_T41 x27 x29).f0) < x586000 then (none) else (if ((rd_T41 x27 x29).f0) > x586002 then (none) else (if ((rd_T41 x27 x29).f1) < x586001 then (none) else (if ((rd_T41 x27 x29).f1) > x586003 then (none) else ((poly_Side.f k x0 ((rd_T41 x27 x29).f0) ((rd_T41 x27 x29).f1)).bind fun t595 => (if t595 < 0 then (none) else (apogeelaw11_PolyDown.l0 k x0 x4 x27 x28 (wrap64 (x29 + 1)) x586000 x586001 x586002 x586003 true (((rd_T41 x27 x29).f0) == x586002) (((rd_T41 x27 x29).f1) == x586001) true))))))) else (if ((rd_T41 x27 x29).f0) < x586000 then (none) else (if ((rd_T41 x27 x29).f0) > x586002 then (none) else (if ((rd_T41 x27 x29).f1) < x586001 then (none) else (if ((rd_T41 x27 x29).f1) > x586003 then (none) else ((poly_Side.f k x0 ((rd_T41 x27 x29).f0) ((rd_T41 x27 x29).f1)).bind fun t596 => (if t596 < 0 then (none) else (apogeelaw11_PolyDown.l0 k x0 x4 x27 x28 (wrap64 (x29 + 1)) x586000 x586001 x586002 x586003 true (((rd_T41 x27 x29).f0) == x586002) (((rd_T41 x27 x29).f1) == x586001) (((rd_T41 x27 x29).f1) == x586003))))))))))) else (if x587001 = true then (if x587002 = true then (if x587003 = true then (if ((rd_T41 x27 x29).f0) < x586000 then (none) else (if ((rd_T41 x27 x29).f0) > x586002 then (none) else (if ((rd_T41 x27 x29).f1) < x586001 then (none) else (if ((rd_T41 x27 x29).f1) > x586003 then (none) else ((poly_Side.f k x0 ((rd_T41 x27 x29).f0) ((rd_T41 x27 x29).f1)).bind fun t597 => (if t597 < 0 then (none) else (apogeelaw11_PolyDown.l0 k x0 x4 x27 x28 (wrap64 (x29 + 1)) x586000 x586001 x586002 x586003 (((rd_T41 x27 x29).f0) == x586000) true true true))))))) else (if ((rd_T41 x27 x29).f0) < x586000 then (none) else (if ((rd_T41 x27 x29).f0) > x586002 then (none) else (if ((rd_T41 x27 x29).f1) < x586001 then (none) else (if ((rd_T41 x27 x29).f1) > x586003 then (none) else ((poly_Side.f k x0 ((rd_T41 x27 x29).f0) ((rd_T41 x27 x29).f1)).bind fun t598 => (if t598 < 0 then (none) else (apogeelaw11_PolyDown.l0 k x0 x4 x27 x28 (wrap64 (x29 + 1)) x586000 x586001 x586002 x586003 (((rd_T41 x27 x29).f0) == x586000) true true (((rd_T41 x27 x29).f1) == x586003))))))))) else (if x587003 = true then (if ((rd_T41 x27 x29).f0) < x586000 then (none) else (if ((rd_T41 x27 x29).f0) > x586002 then (none) else (if ((rd_T41 x27 x29).f1) < x586001 then (none) else (if ((rd_T41 x27 x29).f1) > x586003 then (none) else ((poly_Side.f k x0 ((rd_T41 x27 x29).f0) ((rd_T41 x27 x29).f1)).bind fun t599 => (if t599 < 0 then (none) else (apogeelaw11_PolyDown.l0 k x0 x4 x27 x28 (wrap64 (x29 + 1)) x586000 x586001 x586002 x586003 (((rd_T41 x27 x29).f0) == x586000) true (((rd_T41 x27 x29).f1) == x586001) true))))))) else (if ((rd_T41 x27 x29).f0) < x586000 then (none) else (if ((rd_T41 x27 x29).f0) > x586002 then (none) else (if ((rd_T41 x27 x29).f1) < x586001 then (none) else (if ((rd_T41 x27 x29).f1) > x586003 then (none) else ((poly_Side.f k x0 ((rd_T41 x27 x29).f0) ((rd_T41 x27 x29).f1)).bind fun t600 => (if t600 < 0 then (none) else (apogeelaw11_PolyDown.l0 k x0 x4 x27 x28 (wrap64 (x29 + 1)) x586000 x586001 x586002 x586003 (((rd_T41 x27 x29).f0) == x586000) true (((rd_T41 x27 x29).f1) == x586001) (((rd_T41 x27 x29).f1) == x586003)))))))))) else (if x587002 = true then (if x587003 = true then (if ((rd_T41 x27 x29).f0) < x586000 then (none) else (if ((rd_T41 x27 x29).f0) > x586002 then (none) else (if ((rd_T41 x27 x29).f1) < x586001 then (none) else (if ((rd_T41 x27 x29).f1) > x586003 then (none) else ((poly_Side.f k x0 ((rd_T41 x27 x29).f0) ((rd_T41 x27 x29).f1)).bind fun t601 => (if t601 < 0 then (none) else (apogeelaw11_PolyDown.l0 k x0 x4 x27 x28 (wrap64 (x29 + 1)) x586000 x586001 x586002 x586003 (((rd_T41 x27 x29).f0) == x586000) (((rd_T41 x27 x29).f0) == x586002) true true))))))) else (if ((rd_T41 x27 x29).f0) < x586000 then (none) else (if ((rd_T41 x27 x29).f0) > x586002 then (none) else (if ((rd_T41 x27 x29).f1) < x586001 then (none) else (if ((rd_T41 x27 x29).f1) > x586003 then (none) else ((poly_Side.f k x0 ((rd_T41 x27 x29).f0) ((rd_T41 x27 x29).f1)).bind fun t602 => (if t602 < 0 then (none) else (apogeelaw11_PolyDown.l0 k x0 x4 x27 x28 (wrap64 (x29 + 1)) x586000 x586001 x586002 x586003 (((rd_T41 x27 x29).f0) == x586000) (((rd_T41 x27 x29).f0) == x586002) true (((rd_T41 x27 x29).f1) == x586003))))))))) else (if x587003 = true then (if ((rd_T41 x27 x29).f0) < x586000 then (none) else (if ((rd_T41 x27 x29).f0) > x586002 then (none) else (if ((rd_T41 x27 x29).f1) < x586001 then (none) else (if ((rd_T41 x27 x29).f1) > x586003 then (none) else ((poly_Side.f k x0 ((rd_T41 x27 x29).f0) ((rd_T41 x27 x29).f1)).bind fun t603 => (if t603 < 0 then (none) else (apogeelaw11_PolyDown.l0 k x0 x4 x27 x28 (wrap64 (x29 + 1)) x586000 x586001 x586002 x586003 (((rd_T41 x27 x29).f0) == x586000) (((rd_T41 x27 x29).f0) == x586002) (((rd_T41 x27 x29).f1) == x586001) true))))))) else (if ((rd_T41 x27 x29).f0) < x586000 then (none) else (if ((rd_T41 x27 x29).f0) > x586002 then (none) else (if ((rd_T41 x27 x29).f1) < x586001 then (none) else (if ((rd_T41 x27 x29).f1) > x586003 then (none) else ((poly_Side.f k x0 ((rd_T41 x27 x29).f0) ((rd_T41 x27 x29).f1)).bind fun t604 => (if t604 < 0 then (none) else (apogeelaw11_PolyDown.l0 k x0 x4 x27 x28 (wrap64 (x29 + 1)) x586000 x586001 x586002 x586003 (((rd_T41 x27 x29).f0) == x586000) (((rd_T41 x27 x29).f0) == x586002) (((rd_T41 x27 x29).f1) == x586001) (((rd_T41 x27 x29).f1) == x586003)))))))))))) else (none)) else (none)) else (if x4 = true then (if (x587000 && (x587001 && (x587002 && (x587003)))) = true then (if x586000 < x586002 then (some (decide (x586001 < x586003))) else (none)) else (none)) else (none))
end
def apogeelaw11_PolyDown.f (k : Nat) (l0 : List (S41)) : Option (Bool) := (apogeelaw11_awake.f k).bind fun t576 => (if t576 = true then ((apogeelaw11_few.f l0).bind fun t577 => (if t577 = true then ((apogeeref11_Right.f k l0).bind fun t578 => (apogeelaw11_PolyDown.j0 k l0 (!t578))) else (apogeelaw11_PolyDown.j0 k l0 true))) else (apogeelaw11_PolyDown.j0 k l0 true))
theorem apogeelaw11_PolyDown.mono_l : ∀ k, (∀ y0 y1, LeO (apogeelaw11_PolyDown.j0 k y0 y1) (apogeelaw11_PolyDown.j0 (k + 1) y0 y1)) ∧ (∀ y0 y1 y2 y3 y4 y5 y6 y7 y8 y9 y10 y11 y12, LeO (apogeelaw11_PolyDown.l0 k y0 y1 y2 y3 y4 y5 y6 y7 y8 y9 y10 y11 y12) (apogeelaw11_PolyDown.l0 (k + 1) y0 y1 y2 y3 y4 y5 y6 y7 y8 y9 y10 y11 y12))
 | 0 => ⟨fun _ _ r h => by simp [apogeelaw11_PolyDown.j0] at h, fun _ _ _ _ _ _ _ _ _ _ _ _ _ r h => by simp [apogeelaw11_PolyDown.l0] at h⟩
 | k + 1 => by
  obtain ⟨ih0, ih1⟩ := apogeelaw11_PolyDown.mono_l k
  refine ⟨?_, ?_⟩
  ·intro y0 y1
   unfold apogeelaw11_PolyDown.j0
   repeat' first
   | (with_reducible exact ih0 _ _)
   | (with_reducible exact ih1 _ _ _ _ _ _ _ _ _ _ _ _ _)
   | (with_reducible exact apogeelaw11_awake.mono _)
   | (with_reducible exact apogeeref11_Right.mono _ _)
   | (with_reducible exact poly_Bounds.mono _ _)
   | (with_reducible exact poly_Side.mono _ _ _ _)
   | (with_reducible exact LeO.refl _)
   | (with_reducible exact LeO.none _)
   | (with_reducible refine LeO.ite ?_ ?_)
   | (with_reducible refine LeO.bind ?_ (fun _ => ?_))
   | exact ih0 _ _
   | exact ih1 _ _ _ _ _ _ _ _ _ _ _ _ _
   | exact apogeelaw11_awake.mono _
   | exact apogeeref11_Right.mono _ _
   | exact poly_Bounds.mono _ _
   | exact poly_Side.mono _ _ _ _
   | exact LeO.none _
   | refine LeO.ite ?_ ?_
   | refine LeO.bind ?_ (fun _ => ?_)
  ·intro y0 y1 y2 y3 y4 y5 y6 y7 y8 y9 y10 y11 y12
   unfold apogeelaw11_PolyDown.l0
   repeat' first
   | (with_reducible exact ih0 _ _)
   | (with_reducible exact ih1 _ _ _ _ _ _ _ _ _ _ _ _ _)
   | (with_reducible exact apogeelaw11_awake.mono _)
   | (with_reducible exact apogeeref11_Right.mono _ _)
   | (with_reducible exact poly_Bounds.mono _ _)
   | (with_reducible exact poly_Side.mono _ _ _ _)
   | (with_reducible exact LeO.refl _)
   | (with_reducible exact LeO.none _)
   | (with_reducible refine LeO.ite ?_ ?_)
   | (with_reducible refine LeO.bind ?_ (fun _ => ?_))
   | exact ih0 _ _
   | exact ih1 _ _ _ _ _ _ _ _ _ _ _ _ _
   | exact apogeelaw11_awake.mono _
   | exact apogeeref11_Right.mono _ _
   | exact poly_Bounds.mono _ _
   | exact poly_Side.mono _ _ _ _
   | exact LeO.none _
   | refine LeO.ite ?_ ?_
   | refine LeO.bind ?_ (fun _ => ?_)
theorem apogeelaw11_PolyDown.mono : ∀ a0 k, LeO (apogeelaw11_PolyDown.f k a0) (apogeelaw11_PolyDown.f (k + 1) a0) := by
 intro a0 k
 obtain ⟨ih0, ih1⟩ := apogeelaw11_PolyDown.mono_l k
 unfold apogeelaw11_PolyDown.f
 repeat' first
   | (with_reducible exact ih0 _ _)
   | (with_reducible exact ih1 _ _ _ _ _ _ _ _ _ _ _ _ _)
   | (with_reducible exact apogeelaw11_awake.mono _)
   | (with_reducible exact apogeeref11_Right.mono _ _)
   | (with_reducible exact poly_Bounds.mono _ _)
   | (with_reducible exact poly_Side.mono _ _ _ _)
   | (with_reducible exact LeO.refl _)
   | (with_reducible exact LeO.none _)
   | (with_reducible refine LeO.ite ?_ ?_)
   | (with_reducible refine LeO.bind ?_ (fun _ => ?_))
   | exact ih0 _ _
   | exact ih1 _ _ _ _ _ _ _ _ _ _ _ _ _
   | exact apogeelaw11_awake.mono _
   | exact apogeeref11_Right.mono _ _
   | exact poly_Bounds.mono _ _
   | exact poly_Side.mono _ _ _ _
   | exact LeO.none _
   | refine LeO.ite ?_ ?_
   | refine LeO.bind ?_ (fun _ => ?_)
set_option maxHeartbeats 8000000 in
set_option maxRecDepth 100000 in
theorem apogeelaw11_PolyDown.calls (k : Nat) (A0 : Option Addr) (c0 : Nat) (l0 : List (S41)) (r : Bool) (w : World) (hr0 : Kd.C k41 w A0 l0.length l0) (hc0 : l0.length ≤ c0) (h : apogeelaw11_PolyDown.f k l0 = some r) :
  Calls Try.prog 9 #[.slice A0 l0.length c0] w fun e w' => e = .returned (.bool r) ∧ Below w.heap.size w w' := by
 have hu44 := Try.underlying44
 have hu56 := Try.underlying56
 have hu41 := Try.underlying41
 have HR0 := bA hr0
 have HC0 := bA hc0
 clear hr0 hc0
 have HB := bA (Below.refl w.heap.size w)
 have H : ((apogeelaw11_awake.f k).bind fun t576 => (if t576 = true then ((apogeelaw11_few.f l0).bind fun t577 => (if t577 = true then ((apogeeref11_Right.f k l0).bind fun t578 => (apogeelaw11_PolyDown.j0 k l0 (!t578))) else (apogeelaw11_PolyDown.j0 k l0 true))) else (apogeelaw11_PolyDown.j0 k l0 true))) = some r := h
 clear h
 have HC2 := bA H
 clear H
 go_enter Try.func9, Try.ntmps9
 go_upto_region 1 with (fail)
 go_cut [19] (fun v19 wc => ∃ (kq : Nat) (x19_1 : Bool), v19 = .bool x19_1 ∧ Aside0 (apogeelaw11_PolyDown.j0 kq l0 x19_1 = some r) ∧ Aside0 (kq ≤ k) ∧ Aside0 (Below w.heap.size w wc))
 case first =>
  have H := HC2.out
  clear HC2
  replace H := Option.bind_eq_some_iff.mp H
  obtain ⟨t576, A30, H⟩ := H
  have A3 := bA A30
  clear A30
  by_cases c4 : t576 = true
  rotate_left
  ·replace c4 := Bool.eq_false_iff.mpr c4
   subst c4
   rw [if_neg bn] at H
   have H' := bA H
   clear H
   go_wp2_with (first | ((first | ((with_reducible refine gate_callee (f := 25) rfl ?_); refine bC (some 8) Try.func25 #[] ?_) | go_at_call 25); (with_reducible refine (apogeelaw11_awake.calls k  false _ A3.out).mono ?_); rintro e w11 ⟨rfl, hb⟩; (first | refine ⟨_, rfl, ?_⟩ | skip); replace HB := bA (bS hb); (try clear hb)))
   go_meet
   case rel => exact ⟨_, (true), bs, H', ⟨by first | omega | exact Nat.le_refl _⟩, ⟨bX⟩⟩
  subst c4
  rw [if_pos rfl] at H
  replace H := Option.bind_eq_some_iff.mp H
  obtain ⟨t577, A50, H⟩ := H
  have A5 := bA A50
  clear A50
  by_cases c6 : t577 = true
  ·subst c6
   rw [if_pos rfl] at H
   replace H := Option.bind_eq_some_iff.mp H
   obtain ⟨t578, A70, H⟩ := H
   have A7 := bA A70
   clear A70
   have H' := bA H
   clear H
   go_wp2_with (first | ((first | ((with_reducible refine gate_callee (f := 25) rfl ?_); refine bC (some 8) Try.func25 #[] ?_) | go_at_call 25); (with_reducible refine (apogeelaw11_awake.calls k  true _ A3.out).mono ?_); rintro e w8 ⟨rfl, hb⟩; (first | refine ⟨_, rfl, ?_⟩ | skip); replace HB := bA (bS hb); (try clear hb)) | (go_at_call 26; (with_reducible refine (apogeelaw11_few.calls _ _ l0 true _ ?side1 ?side2 A5.out).mono ?_); (case side1 => exact bQ HR0); (case side2 => exact HC0.out); rintro e w' ⟨rfl, ⟨nd, rfl⟩⟩) | (go_at_call 28; (with_reducible refine (apogeeref11_Right.calls k _ _ l0 t578 _ ?side1 ?side2 A7.out).mono ?_); (case side1 => repeat (first | exact (Kd.C_below HR0.out bX) | (with_reducible refine Kd.C_alloc ?_ _) | (with_reducible refine Kd.C_drewN ?_ _) | (with_reducible refine Kd.C_drew ?_))); (case side2 => exact HC0.out); rintro e w9 ⟨rfl, hb⟩; replace HB := bA (bS hb); (try clear hb)))
   go_meet
   case rel => exact ⟨_, (!t578), bs, H', ⟨by first | omega | exact Nat.le_refl _⟩, ⟨bX⟩⟩
  replace c6 := Bool.eq_false_iff.mpr c6
  subst c6
  rw [if_neg bn] at H
  have H' := bA H
  clear H
  go_wp2_with (first | ((first | ((with_reducible refine gate_callee (f := 25) rfl ?_); refine bC (some 8) Try.func25 #[] ?_) | go_at_call 25); (with_reducible refine (apogeelaw11_awake.calls k  true _ A3.out).mono ?_); rintro e w10 ⟨rfl, hb⟩; (first | refine ⟨_, rfl, ?_⟩ | skip); replace HB := bA (bS hb); (try clear hb)) | (go_at_call 26; (with_reducible refine (apogeelaw11_few.calls _ _ l0 false _ ?side1 ?side2 A5.out).mono ?_); (case side1 => exact bQ HR0); (case side2 => exact HC0.out); rintro e w' ⟨rfl, ⟨nd, rfl⟩⟩))
  go_meet
  case rel => exact ⟨_, (true), bs, H', ⟨by first | omega | exact Nat.le_refl _⟩, ⟨bX⟩⟩
 clear HC2
 try clear c2
 try clear p2
 try clear c4
 try clear c6
 try clear c9
 obtain ⟨kq, x19_1, rfl, HA, HJ1, HB⟩ := hcut
 cases kq with
 | zero => exact absurd HA.out (by simp [apogeelaw11_PolyDown.j0])
 | succ kj1 =>
  have H := HA.out
  clear HA
  simp only [apogeelaw11_PolyDown.j0] at H
  by_cases c12 : x19_1 = true
  ·subst c12
   rw [if_pos rfl] at H
   replace H := Option.bind_eq_some_iff.mp H
   obtain ⟨t579, A130, H⟩ := H
   have A13 := bA A130
   clear A130
   obtain rfl := Option.some.inj H
   go_wp2_with (first | ((first | ((with_reducible refine gate_callee (f := 25) rfl ?_); refine bC (some 20) Try.func25 #[] ?_) | go_at_call 25); (with_reducible refine (apogeelaw11_awake.calls kj1  t579 _ A13.out).mono ?_); rintro e w14 ⟨rfl, hb⟩; (first | refine ⟨_, rfl, ?_⟩ | skip); replace HB := bA (bS hb); (try clear hb)))
   go_ret
   exact bF
  replace c12 := Bool.eq_false_iff.mpr c12
  subst c12
  rw [if_neg bn] at H
  replace H := Option.bind_eq_some_iff.mp H
  obtain ⟨⟨t580, t581, t582, t583, t584⟩, A150, H⟩ := H
  replace H : (apogeelaw11_PolyDown.l0 kj1 l0 t584 l0 (l0.length : Int) 0 t580 t581 t582 t583 false false false false) = some r := H
  have A15 := bA A150
  clear A150
  have H' := bA H
  clear H
  go_wp2_with (first | ((first | ((with_reducible refine gate_callee (f := 27) rfl ?_); refine bC (some 23) Try.func27 #[.slice A0 l0.length c0] ?_) | go_at_call 27); (with_reducible refine (poly_Bounds.calls kj1 _ _ l0 t580 t581 t582 t583 t584 _ ?side1 ?side2 A15.out).mono ?_); (case side1 => exact bQ HR0); (case side2 => exact HC0.out); rintro e w16 ⟨rfl, hb⟩; (first | refine ⟨_, rfl, ?_⟩ | skip); replace HB := bA (bS hb); (try clear hb)) | ((with_reducible refine gate_dst (N := 3) rfl ?_); refine bE (N := 3) (cs := #[.int .i64 0, .int .i64 0, .int .i64 0, .int .i64 0]) (t := 44) ?_; intro gb585 hg w17 hbox hb; have BK585 := bA (hbox); have GW585 := bA (bZ hg); have GE585 := bA (bZ hg); replace HB := bA (bS hb); clear hb hbox hg; obtain ⟨hcz18_0, hcz18_1, hcz18_2, hcz18_3, hfz18_0, hfz18_1, hfz18_2, hfz18_3⟩ := bc4 BK585) | ((with_reducible refine gate_dst (N := 5) rfl ?_); refine bE (N := 5) (cs := #[.bool false, .bool false, .bool false, .bool false]) (t := 56) ?_; intro gb586 hg w19 hbox hb; have BK586 := bA (hbox); have GW586 := bA (bZ hg); have GE586 := bA (bZ hg); have NB585_586 := bA ((by rw [hg]; exact Nat.ne_of_lt (blk_lt (g := gb585) (o := .cells #[.int .i64 t580, .int .i64 t581, .int .i64 t582, .int .i64 t583] 44 (0, 0)) (by (with_reducible repeat (first | refine blk_drewN ?_ _ | refine blk_drew ?_ | refine blk_alloc ?_ _)); refine blk_put (cs := #[.int .i64 t580, .int .i64 t581, .int .i64 t582, .int .i64 0]) ?_ 3 _ rfl; (with_reducible repeat (first | refine blk_drewN ?_ _ | refine blk_drew ?_ | refine blk_alloc ?_ _)); refine blk_put (cs := #[.int .i64 t580, .int .i64 t581, .int .i64 0, .int .i64 0]) ?_ 2 _ rfl; (with_reducible repeat (first | refine blk_drewN ?_ _ | refine blk_drew ?_ | refine blk_alloc ?_ _)); refine blk_put (cs := #[.int .i64 t580, .int .i64 0, .int .i64 0, .int .i64 0]) ?_ 1 _ rfl; (with_reducible repeat (first | refine blk_drewN ?_ _ | refine blk_drew ?_ | refine blk_alloc ?_ _)); refine blk_put (cs := #[.int .i64 0, .int .i64 0, .int .i64 0, .int .i64 0]) ?_ 0 _ rfl; (with_reducible repeat (first | refine blk_drewN ?_ _ | refine blk_drew ?_ | refine blk_alloc ?_ _)); exact BK585.out)) : gb585 ≠ gb586)); have NB586_585 := bA ((by rw [hg]; exact Nat.ne_of_gt (blk_lt (g := gb585) (o := .cells #[.int .i64 t580, .int .i64 t581, .int .i64 t582, .int .i64 t583] 44 (0, 0)) (by (with_reducible repeat (first | refine blk_drewN ?_ _ | refine blk_drew ?_ | refine blk_alloc ?_ _)); refine blk_put (cs := #[.int .i64 t580, .int .i64 t581, .int .i64 t582, .int .i64 0]) ?_ 3 _ rfl; (with_reducible repeat (first | refine blk_drewN ?_ _ | refine blk_drew ?_ | refine blk_alloc ?_ _)); refine blk_put (cs := #[.int .i64 t580, .int .i64 t581, .int .i64 0, .int .i64 0]) ?_ 2 _ rfl; (with_reducible repeat (first | refine blk_drewN ?_ _ | refine blk_drew ?_ | refine blk_alloc ?_ _)); refine blk_put (cs := #[.int .i64 t580, .int .i64 0, .int .i64 0, .int .i64 0]) ?_ 1 _ rfl; (with_reducible repeat (first | refine blk_drewN ?_ _ | refine blk_drew ?_ | refine blk_alloc ?_ _)); refine blk_put (cs := #[.int .i64 0, .int .i64 0, .int .i64 0, .int .i64 0]) ?_ 0 _ rfl; (with_reducible repeat (first | refine blk_drewN ?_ _ | refine blk_drew ?_ | refine blk_alloc ?_ _)); exact BK585.out)) : gb586 ≠ gb585)); replace BK585 := bA (blk_below (g := gb585) (o := .cells #[.int .i64 t580, .int .i64 t581, .int .i64 t582, .int .i64 t583] 44 (0, 0)) (by (with_reducible repeat (first | refine blk_drewN ?_ _ | refine blk_drew ?_ | refine blk_alloc ?_ _)); refine blk_put (cs := #[.int .i64 t580, .int .i64 t581, .int .i64 t582, .int .i64 0]) ?_ 3 _ rfl; (with_reducible repeat (first | refine blk_drewN ?_ _ | refine blk_drew ?_ | refine blk_alloc ?_ _)); refine blk_put (cs := #[.int .i64 t580, .int .i64 t581, .int .i64 0, .int .i64 0]) ?_ 2 _ rfl; (with_reducible repeat (first | refine blk_drewN ?_ _ | refine blk_drew ?_ | refine blk_alloc ?_ _)); refine blk_put (cs := #[.int .i64 t580, .int .i64 0, .int .i64 0, .int .i64 0]) ?_ 1 _ rfl; (with_reducible repeat (first | refine blk_drewN ?_ _ | refine blk_drew ?_ | refine blk_alloc ?_ _)); refine blk_put (cs := #[.int .i64 0, .int .i64 0, .int .i64 0, .int .i64 0]) ?_ 0 _ rfl; (with_reducible repeat (first | refine blk_drewN ?_ _ | refine blk_drew ?_ | refine blk_alloc ?_ _)); exact BK585.out) hb); replace HB := bA (bS hb); clear hb hbox hg; have hnb20 := NB586_585.out; have hnc20 := NB585_586.out; obtain ⟨hcz21_0, hcz21_1, hcz21_2, hcz21_3, hfz21_0, hfz21_1, hfz21_2, hfz21_3⟩ := bc4 BK586))
  go_loopg [29] kj1 (fun kq v29 w' => ∃ (x29_2 : Int) (x587000_2 : Bool) (x587001_2 : Bool) (x587002_2 : Bool) (x587003_2 : Bool), v29 = .int .i64 x29_2 ∧ Aside0 (apogeelaw11_PolyDown.l0 kq l0 t584 l0 (l0.length : Int) x29_2 t580 t581 t582 t583 x587000_2 x587001_2 x587002_2 x587003_2 = some r) ∧ Aside0 (kq ≤ kj1) ∧ Aside0 (w'.heap[gb585]? = some (.cells #[.int .i64 t580, .int .i64 t581, .int .i64 t582, .int .i64 t583] 44 (0, 0))) ∧ Aside0 (w'.heap[gb586]? = some (.cells #[.bool x587000_2, .bool x587001_2, .bool x587002_2, .bool x587003_2] 56 (0, 0))) ∧ Aside0 (Below w.heap.size w w'))
  case atStart => exact ⟨(0), (false), (false), (false), (false), bs, H', ⟨Nat.le_refl _⟩, ⟨by (repeat ((with_reducible repeat (first | refine blk_drewN ?_ _ | refine blk_drew ?_ | refine blk_alloc ?_ _)); refine blk_far ?_ NB585_586.out _)); (with_reducible repeat (first | refine blk_drewN ?_ _ | refine blk_drew ?_ | refine blk_alloc ?_ _)); exact BK585.out⟩, ⟨by (with_reducible repeat (first | refine blk_drewN ?_ _ | refine blk_drew ?_ | refine blk_alloc ?_ _)); refine blk_put (cs := #[.bool false, .bool false, .bool false, .bool false]) ?_ 3 _ rfl; (with_reducible repeat (first | refine blk_drewN ?_ _ | refine blk_drew ?_ | refine blk_alloc ?_ _)); refine blk_put (cs := #[.bool false, .bool false, .bool false, .bool false]) ?_ 2 _ rfl; (with_reducible repeat (first | refine blk_drewN ?_ _ | refine blk_drew ?_ | refine blk_alloc ?_ _)); refine blk_put (cs := #[.bool false, .bool false, .bool false, .bool false]) ?_ 1 _ rfl; (with_reducible repeat (first | refine blk_drewN ?_ _ | refine blk_drew ?_ | refine blk_alloc ?_ _)); refine blk_put (cs := #[.bool false, .bool false, .bool false, .bool false]) ?_ 0 _ rfl; (with_reducible repeat (first | refine blk_drewN ?_ _ | refine blk_drew ?_ | refine blk_alloc ?_ _)); exact BK586.out⟩, ⟨bX⟩⟩
  clear H'
  try clear c1
  try clear c2
  try clear p2
  try clear c4
  try clear c6
  try clear c9
  try clear c12
  try clear c20
  try clear hcz18_0
  try clear hcz18_1
  try clear hcz18_2
  try clear hcz18_3
  try clear hcz21_0
  try clear hcz21_1
  try clear hcz21_2
  try clear hcz21_3
  try clear hfz18_0
  try clear hfz18_1
  try clear hfz18_2
  try clear hfz18_3
  try clear hfz21_0
  try clear hfz21_1
  try clear hfz21_2
  try clear hfz21_3
  try clear p2
  obtain ⟨x29_2, x587000_2, x587001_2, x587002_2, x587003_2, rfl, HA, HK2, BK585, BK586, HB⟩ := hrel
  cases gk with
  | zero => exact absurd HA.out (by simp [apogeelaw11_PolyDown.l0])
  | succ k2 =>
   have H := HA.out
   clear HA
   simp only [apogeelaw11_PolyDown.l0] at H
   by_cases c22 : x29_2 < (l0.length : Int)
   rotate_left
   ·rw [if_neg c22] at H
    have c22b0 : decide (x29_2 < (l0.length : Int)) = false := decide_eq_false c22
    clear c22
    by_cases c264 : t584 = true
    rotate_left
    ·replace c264 := Bool.eq_false_iff.mpr c264
     subst c264
     rw [if_neg bn] at H
     exact absurd H (by simp)
    subst c264
    rw [if_pos rfl] at H
    by_cases c265 : (x587000_2 && (x587001_2 && (x587002_2 && (x587003_2)))) = true
    rotate_left
    ·rw [if_neg c265] at H
     exact absurd H (by simp)
    rw [if_pos c265] at H
    have c265b0 : (x587000_2 && (x587001_2 && (x587002_2 && (x587003_2)))) = true := c265
    clear c265
    by_cases c266 : t580 < t582
    rotate_left
    ·rw [if_neg c266] at H
     exact absurd H (by simp)
    rw [if_pos c266] at H
    have c266b0 : decide (t580 < t582) = true := decide_eq_true c266
    clear c266
    obtain rfl := Option.some.inj H
    have hnb267 := NB586_585.out
    have hnc267 := NB585_586.out
    obtain ⟨hcz268_0, hcz268_1, hcz268_2, hcz268_3, hfz268_0, hfz268_1, hfz268_2, hfz268_3⟩ := bc4 BK586
    obtain ⟨hcz269_0, hcz269_1, hcz269_2, hcz269_3, hfz269_0, hfz269_1, hfz269_2, hfz269_3⟩ := bc4 BK585
    go_wp2
    go_ret
    exact bF
   rw [if_pos c22] at H
   have c22b0 : decide (x29_2 < (l0.length : Int)) = true := decide_eq_true c22
   clear c22
   by_cases c23 : 0 ≤ x29_2
   rotate_left
   ·rw [if_neg c23] at H
    exact absurd H (by simp)
   rw [if_pos c23] at H
   have c23b0 : decide (0 ≤ x29_2) = true := decide_eq_true c23
   clear c23
   by_cases c24 : x29_2 < (l0.length : Int)
   rotate_left
   ·rw [if_neg c24] at H
    exact absurd H (by simp)
   rw [if_pos c24] at H
   have c24b0 : decide (x29_2 < (l0.length : Int)) = true := decide_eq_true c24
   clear c24
   by_cases c25 : x587000_2 = true
   ·subst c25
    rw [if_pos rfl] at H
    by_cases c26 : x587001_2 = true
    ·subst c26
     rw [if_pos rfl] at H
     by_cases c27 : x587002_2 = true
     ·subst c27
      rw [if_pos rfl] at H
      by_cases c28 : x587003_2 = true
      ·subst c28
       rw [if_pos rfl] at H
       by_cases c29 : ((rd_T41 l0 x29_2).f0) < t580
       ·rw [if_pos c29] at H
        exact absurd H (by simp)
       rw [if_neg c29] at H
       have c29b0 : decide (((rd_T41 l0 x29_2).f0) < t580) = false := decide_eq_false c29
       clear c29
       by_cases c30 : ((rd_T41 l0 x29_2).f0) > t582
       ·rw [if_pos c30] at H
        exact absurd H (by simp)
       rw [if_neg c30] at H
       have c30b0 : decide (t582 < ((rd_T41 l0 x29_2).f0)) = false := decide_eq_false c30
       clear c30
       by_cases c31 : ((rd_T41 l0 x29_2).f1) < t581
       ·rw [if_pos c31] at H
        exact absurd H (by simp)
       rw [if_neg c31] at H
       have c31b0 : decide (((rd_T41 l0 x29_2).f1) < t581) = false := decide_eq_false c31
       clear c31
       by_cases c32 : ((rd_T41 l0 x29_2).f1) > t583
       ·rw [if_pos c32] at H
        exact absurd H (by simp)
       rw [if_neg c32] at H
       have c32b0 : decide (t583 < ((rd_T41 l0 x29_2).f1)) = false := decide_eq_false c32
       clear c32
       replace H := Option.bind_eq_some_iff.mp H
       obtain ⟨t589, A330, H⟩ := H
       have A33 := bA A330
       clear A330
       by_cases c34 : t589 < 0
       ·rw [if_pos c34] at H
        exact absurd H (by simp)
       rw [if_neg c34] at H
       have c34b0 : decide (t589 < 0) = false := decide_eq_false c34
       clear c34
       have H' := bA H
       clear H
       have p587 : 0 ≤ (x29_2 : Int) := bo
       have q587 : x29_2 < (l0.length : Int) := bo
       obtain ⟨ad587, e587, hx587_0, hx587_1⟩ := at_T41 HR0.out x29_2 p587 q587
       cases e587
       replace hx587_0 := bK hx587_0
       replace hx587_1 := bK hx587_1
       replace p587 := eq_true p587
       replace q587 := eq_true q587
       go_wp2_with (first | ((with_reducible refine gate_dst (N := 7) rfl ?_); refine bE (N := 7) (cs := #[.int .i64 0, .int .i64 0]) (t := 41) ?_; intro gb588 hg w35 hbox hb; have BK588 := bA (hbox); have GW588 := bA (bZ hg); have GE588 := bA (bZ hg); have NB585_588 := bA (bL BK585 hg); have NB588_585 := bA (bG BK585 hg); have NB586_588 := bA (bL BK586 hg); have NB588_586 := bA (bG BK586 hg); replace BK585 := bA (bB BK585 hb); replace BK586 := bA (bB BK586 hb); replace HB := bA (bS hb); clear hb hbox hg; have hnb36 := NB588_585.out; have hnc36 := NB585_588.out; have hnb37 := NB588_586.out; have hnc37 := NB586_588.out; obtain ⟨hcz38_0, hcz38_1, hfz38_0, hfz38_1⟩ := bc2 BK588; have hnb39 := NB586_585.out; have hnc39 := NB585_586.out; obtain ⟨hcz40_0, hcz40_1, hcz40_2, hcz40_3, hfz40_0, hfz40_1, hfz40_2, hfz40_3⟩ := bc4 BK586; obtain ⟨hcz41_0, hcz41_1, hcz41_2, hcz41_3, hfz41_0, hfz41_1, hfz41_2, hfz41_3⟩ := bc4 BK585) | (go_at_call 32; (with_reducible refine (poly_Side.calls k2 _ _ l0 ((rd_T41 l0 x29_2).f0) ((rd_T41 l0 x29_2).f1) t589 _ ?side1 ?side2 A33.out).mono ?_); (case side1 => exact Kd.C_below HR0.out bX); (case side2 => exact HC0.out); rintro e w42 ⟨rfl, hb⟩; replace BK585 := bA (blk_below (g := gb585) (o := .cells #[.int .i64 t580, .int .i64 t581, .int .i64 t582, .int .i64 t583] 44 (0, 0)) (by (repeat ((with_reducible repeat (first | refine blk_drewN ?_ _ | refine blk_drew ?_ | refine blk_alloc ?_ _)); refine blk_far ?_ NB585_586.out _)); (repeat ((with_reducible repeat (first | refine blk_drewN ?_ _ | refine blk_drew ?_ | refine blk_alloc ?_ _)); refine blk_far ?_ NB585_588.out _)); (with_reducible repeat (first | refine blk_drewN ?_ _ | refine blk_drew ?_ | refine blk_alloc ?_ _)); exact BK585.out) hb); replace BK586 := bA (blk_below (g := gb586) (o := .cells #[.bool true, .bool true, .bool true, .bool true] 56 (0, 0)) (by (with_reducible repeat (first | refine blk_drewN ?_ _ | refine blk_drew ?_ | refine blk_alloc ?_ _)); refine blk_put (cs := #[.bool true, .bool true, .bool true, .bool true]) ?_ 3 _ rfl; (with_reducible repeat (first | refine blk_drewN ?_ _ | refine blk_drew ?_ | refine blk_alloc ?_ _)); refine blk_put (cs := #[.bool true, .bool true, .bool true, .bool true]) ?_ 2 _ rfl; (with_reducible repeat (first | refine blk_drewN ?_ _ | refine blk_drew ?_ | refine blk_alloc ?_ _)); refine blk_put (cs := #[.bool true, .bool true, .bool true, .bool true]) ?_ 1 _ rfl; (with_reducible repeat (first | refine blk_drewN ?_ _ | refine blk_drew ?_ | refine blk_alloc ?_ _)); refine blk_put (cs := #[.bool true, .bool true, .bool true, .bool true]) ?_ 0 _ rfl; (repeat ((with_reducible repeat (first | refine blk_drewN ?_ _ | refine blk_drew ?_ | refine blk_alloc ?_ _)); refine blk_far ?_ NB586_588.out _)); (with_reducible repeat (first | refine blk_drewN ?_ _ | refine blk_drew ?_ | refine blk_alloc ?_ _)); exact BK586.out) hb); replace BK588 := bA (blk_below (g := gb588) (o := .cells #[.int .i64 ((rd_T41 l0 x29_2).f0), .int .i64 ((rd_T41 l0 x29_2).f1)] 41 (0, 0)) (by (repeat ((with_reducible repeat (first | refine blk_drewN ?_ _ | refine blk_drew ?_ | refine blk_alloc ?_ _)); refine blk_far ?_ NB588_586.out _)); (with_reducible repeat (first | refine blk_drewN ?_ _ | refine blk_drew ?_ | refine blk_alloc ?_ _)); refine blk_put (cs := #[.int .i64 ((rd_T41 l0 x29_2).f0), .int .i64 0]) ?_ 1 _ rfl; (with_reducible repeat (first | refine blk_drewN ?_ _ | refine blk_drew ?_ | refine blk_alloc ?_ _)); refine blk_put (cs := #[.int .i64 0, .int .i64 0]) ?_ 0 _ rfl; (with_reducible repeat (first | refine blk_drewN ?_ _ | refine blk_drew ?_ | refine blk_alloc ?_ _)); exact BK588.out) hb); replace HB := bA (bS hb); (try clear hb)))
       go_roundg k2
       case measure => have := HJ1.out; have := HK2.out; omega
       case rel => exact ⟨(wrap64 (x29_2 + 1)), (true), (true), (true), (true), bs, H', ⟨by have := HJ1.out; have := HK2.out; omega⟩, ⟨by (with_reducible repeat (first | refine blk_drewN ?_ _ | refine blk_drew ?_ | refine blk_alloc ?_ _)); exact BK585.out⟩, ⟨by (with_reducible repeat (first | refine blk_drewN ?_ _ | refine blk_drew ?_ | refine blk_alloc ?_ _)); exact BK586.out⟩, ⟨bX⟩⟩
      replace c28 := Bool.eq_false_iff.mpr c28
      subst c28
      rw [if_neg bn] at H
      by_cases c43 : ((rd_T41 l0 x29_2).f0) < t580
      ·rw [if_pos c43] at H
       exact absurd H (by simp)
      rw [if_neg c43] at H
      have c43b0 : decide (((rd_T41 l0 x29_2).f0) < t580) = false := decide_eq_false c43
      clear c43
      by_cases c44 : ((rd_T41 l0 x29_2).f0) > t582
      ·rw [if_pos c44] at H
       exact absurd H (by simp)
      rw [if_neg c44] at H
      have c44b0 : decide (t582 < ((rd_T41 l0 x29_2).f0)) = false := decide_eq_false c44
      clear c44
      by_cases c45 : ((rd_T41 l0 x29_2).f1) < t581
      ·rw [if_pos c45] at H
       exact absurd H (by simp)
      rw [if_neg c45] at H
      have c45b0 : decide (((rd_T41 l0 x29_2).f1) < t581) = false := decide_eq_false c45
      clear c45
      by_cases c46 : ((rd_T41 l0 x29_2).f1) > t583
      ·rw [if_pos c46] at H
       exact absurd H (by simp)
      rw [if_neg c46] at H
      have c46b0 : decide (t583 < ((rd_T41 l0 x29_2).f1)) = false := decide_eq_false c46
      clear c46
      replace H := Option.bind_eq_some_iff.mp H
      obtain ⟨t590, A470, H⟩ := H
      have A47 := bA A470
      clear A470
      by_cases c48 : t590 < 0
      ·rw [if_pos c48] at H
       exact absurd H (by simp)
      rw [if_neg c48] at H
      have c48b0 : decide (t590 < 0) = false := decide_eq_false c48
      clear c48
      have H' := bA H
      clear H
      have p587 : 0 ≤ (x29_2 : Int) := bo
      have q587 : x29_2 < (l0.length : Int) := bo
      obtain ⟨ad587, e587, hx587_0, hx587_1⟩ := at_T41 HR0.out x29_2 p587 q587
      cases e587
      replace hx587_0 := bK hx587_0
      replace hx587_1 := bK hx587_1
      replace p587 := eq_true p587
      replace q587 := eq_true q587
      go_wp2_with (first | ((with_reducible refine gate_dst (N := 7) rfl ?_); refine bE (N := 7) (cs := #[.int .i64 0, .int .i64 0]) (t := 41) ?_; intro gb588 hg w49 hbox hb; have BK588 := bA (hbox); have GW588 := bA (bZ hg); have GE588 := bA (bZ hg); have NB585_588 := bA (bL BK585 hg); have NB588_585 := bA (bG BK585 hg); have NB586_588 := bA (bL BK586 hg); have NB588_586 := bA (bG BK586 hg); replace BK585 := bA (bB BK585 hb); replace BK586 := bA (bB BK586 hb); replace HB := bA (bS hb); clear hb hbox hg; have hnb50 := NB588_585.out; have hnc50 := NB585_588.out; have hnb51 := NB588_586.out; have hnc51 := NB586_588.out; obtain ⟨hcz52_0, hcz52_1, hfz52_0, hfz52_1⟩ := bc2 BK588; have hnb53 := NB586_585.out; have hnc53 := NB585_586.out; obtain ⟨hcz54_0, hcz54_1, hcz54_2, hcz54_3, hfz54_0, hfz54_1, hfz54_2, hfz54_3⟩ := bc4 BK586; obtain ⟨hcz55_0, hcz55_1, hcz55_2, hcz55_3, hfz55_0, hfz55_1, hfz55_2, hfz55_3⟩ := bc4 BK585) | (go_at_call 32; (with_reducible refine (poly_Side.calls k2 _ _ l0 ((rd_T41 l0 x29_2).f0) ((rd_T41 l0 x29_2).f1) t590 _ ?side1 ?side2 A47.out).mono ?_); (case side1 => exact Kd.C_below HR0.out bX); (case side2 => exact HC0.out); rintro e w56 ⟨rfl, hb⟩; replace BK585 := bA (blk_below (g := gb585) (o := .cells #[.int .i64 t580, .int .i64 t581, .int .i64 t582, .int .i64 t583] 44 (0, 0)) (by (repeat ((with_reducible repeat (first | refine blk_drewN ?_ _ | refine blk_drew ?_ | refine blk_alloc ?_ _)); refine blk_far ?_ NB585_586.out _)); (repeat ((with_reducible repeat (first | refine blk_drewN ?_ _ | refine blk_drew ?_ | refine blk_alloc ?_ _)); refine blk_far ?_ NB585_588.out _)); (with_reducible repeat (first | refine blk_drewN ?_ _ | refine blk_drew ?_ | refine blk_alloc ?_ _)); exact BK585.out) hb); replace BK586 := bA (blk_below (g := gb586) (o := .cells #[.bool true, .bool true, .bool true, .bool (((rd_T41 l0 x29_2).f1) == t583)] 56 (0, 0)) (by (with_reducible repeat (first | refine blk_drewN ?_ _ | refine blk_drew ?_ | refine blk_alloc ?_ _)); refine blk_put (cs := #[.bool true, .bool true, .bool true, .bool false]) ?_ 3 _ rfl; (with_reducible repeat (first | refine blk_drewN ?_ _ | refine blk_drew ?_ | refine blk_alloc ?_ _)); refine blk_put (cs := #[.bool true, .bool true, .bool true, .bool false]) ?_ 2 _ rfl; (with_reducible repeat (first | refine blk_drewN ?_ _ | refine blk_drew ?_ | refine blk_alloc ?_ _)); refine blk_put (cs := #[.bool true, .bool true, .bool true, .bool false]) ?_ 1 _ rfl; (with_reducible repeat (first | refine blk_drewN ?_ _ | refine blk_drew ?_ | refine blk_alloc ?_ _)); refine blk_put (cs := #[.bool true, .bool true, .bool true, .bool false]) ?_ 0 _ rfl; (repeat ((with_reducible repeat (first | refine blk_drewN ?_ _ | refine blk_drew ?_ | refine blk_alloc ?_ _)); refine blk_far ?_ NB586_588.out _)); (with_reducible repeat (first | refine blk_drewN ?_ _ | refine blk_drew ?_ | refine blk_alloc ?_ _)); exact BK586.out) hb); replace BK588 := bA (blk_below (g := gb588) (o := .cells #[.int .i64 ((rd_T41 l0 x29_2).f0), .int .i64 ((rd_T41 l0 x29_2).f1)] 41 (0, 0)) (by (repeat ((with_reducible repeat (first | refine blk_drewN ?_ _ | refine blk_drew ?_ | refine blk_alloc ?_ _)); refine blk_far ?_ NB588_586.out _)); (with_reducible repeat (first | refine blk_drewN ?_ _ | refine blk_drew ?_ | refine blk_alloc ?_ _)); refine blk_put (cs := #[.int .i64 ((rd_T41 l0 x29_2).f0), .int .i64 0]) ?_ 1 _ rfl; (with_reducible repeat (first | refine blk_drewN ?_ _ | refine blk_drew ?_ | refine blk_alloc ?_ _)); refine blk_put (cs := #[.int .i64 0, .int .i64 0]) ?_ 0 _ rfl; (with_reducible repeat (first | refine blk_drewN ?_ _ | refine blk_drew ?_ | refine blk_alloc ?_ _)); exact BK588.out) hb); replace HB := bA (bS hb); (try clear hb)))
      go_roundg k2
      case measure => have := HJ1.out; have := HK2.out; omega
      case rel => exact ⟨(wrap64 (x29_2 + 1)), (true), (true), (true), ((((rd_T41 l0 x29_2).f1) == t583)), bs, H', ⟨by have := HJ1.out; have := HK2.out; omega⟩, ⟨by (with_reducible repeat (first | refine blk_drewN ?_ _ | refine blk_drew ?_ | refine blk_alloc ?_ _)); exact BK585.out⟩, ⟨by (with_reducible repeat (first | refine blk_drewN ?_ _ | refine blk_drew ?_ | refine blk_alloc ?_ _)); exact BK586.out⟩, ⟨bX⟩⟩
     replace c27 := Bool.eq_false_iff.mpr c27
     subst c27
     rw [if_neg bn] at H
     by_cases c57 : x587003_2 = true
     ·subst c57
      rw [if_pos rfl] at H
      by_cases c58 : ((rd_T41 l0 x29_2).f0) < t580
      ·rw [if_pos c58] at H
       exact absurd H (by simp)
      rw [if_neg c58] at H
      have c58b0 : decide (((rd_T41 l0 x29_2).f0) < t580) = false := decide_eq_false c58
      clear c58
      by_cases c59 : ((rd_T41 l0 x29_2).f0) > t582
      ·rw [if_pos c59] at H
       exact absurd H (by simp)
      rw [if_neg c59] at H
      have c59b0 : decide (t582 < ((rd_T41 l0 x29_2).f0)) = false := decide_eq_false c59
      clear c59
      by_cases c60 : ((rd_T41 l0 x29_2).f1) < t581
      ·rw [if_pos c60] at H
       exact absurd H (by simp)
      rw [if_neg c60] at H
      have c60b0 : decide (((rd_T41 l0 x29_2).f1) < t581) = false := decide_eq_false c60
      clear c60
      by_cases c61 : ((rd_T41 l0 x29_2).f1) > t583
      ·rw [if_pos c61] at H
       exact absurd H (by simp)
      rw [if_neg c61] at H
      have c61b0 : decide (t583 < ((rd_T41 l0 x29_2).f1)) = false := decide_eq_false c61
      clear c61
      replace H := Option.bind_eq_some_iff.mp H
      obtain ⟨t591, A620, H⟩ := H
      have A62 := bA A620
      clear A620
      by_cases c63 : t591 < 0
      ·rw [if_pos c63] at H
       exact absurd H (by simp)
      rw [if_neg c63] at H
      have c63b0 : decide (t591 < 0) = false := decide_eq_false c63
      clear c63
      have H' := bA H
      clear H
      have p587 : 0 ≤ (x29_2 : Int) := bo
      have q587 : x29_2 < (l0.length : Int) := bo
      obtain ⟨ad587, e587, hx587_0, hx587_1⟩ := at_T41 HR0.out x29_2 p587 q587
      cases e587
      replace hx587_0 := bK hx587_0
      replace hx587_1 := bK hx587_1
      replace p587 := eq_true p587
      replace q587 := eq_true q587
      go_wp2_with (first | ((with_reducible refine gate_dst (N := 7) rfl ?_); refine bE (N := 7) (cs := #[.int .i64 0, .int .i64 0]) (t := 41) ?_; intro gb588 hg w64 hbox hb; have BK588 := bA (hbox); have GW588 := bA (bZ hg); have GE588 := bA (bZ hg); have NB585_588 := bA (bL BK585 hg); have NB588_585 := bA (bG BK585 hg); have NB586_588 := bA (bL BK586 hg); have NB588_586 := bA (bG BK586 hg); replace BK585 := bA (bB BK585 hb); replace BK586 := bA (bB BK586 hb); replace HB := bA (bS hb); clear hb hbox hg; have hnb65 := NB588_585.out; have hnc65 := NB585_588.out; have hnb66 := NB588_586.out; have hnc66 := NB586_588.out; obtain ⟨hcz67_0, hcz67_1, hfz67_0, hfz67_1⟩ := bc2 BK588; have hnb68 := NB586_585.out; have hnc68 := NB585_586.out; obtain ⟨hcz69_0, hcz69_1, hcz69_2, hcz69_3, hfz69_0, hfz69_1, hfz69_2, hfz69_3⟩ := bc4 BK586; obtain ⟨hcz70_0, hcz70_1, hcz70_2, hcz70_3, hfz70_0, hfz70_1, hfz70_2, hfz70_3⟩ := bc4 BK585) | (go_at_call 32; (with_reducible refine (poly_Side.calls k2 _ _ l0 ((rd_T41 l0 x29_2).f0) ((rd_T41 l0 x29_2).f1) t591 _ ?side1 ?side2 A62.out).mono ?_); (case side1 => exact Kd.C_below HR0.out bX); (case side2 => exact HC0.out); rintro e w71 ⟨rfl, hb⟩; replace BK585 := bA (blk_below (g := gb585) (o := .cells #[.int .i64 t580, .int .i64 t581, .int .i64 t582, .int .i64 t583] 44 (0, 0)) (by (repeat ((with_reducible repeat (first | refine blk_drewN ?_ _ | refine blk_drew ?_ | refine blk_alloc ?_ _)); refine blk_far ?_ NB585_586.out _)); (repeat ((with_reducible repeat (first | refine blk_drewN ?_ _ | refine blk_drew ?_ | refine blk_alloc ?_ _)); refine blk_far ?_ NB585_588.out _)); (with_reducible repeat (first | refine blk_drewN ?_ _ | refine blk_drew ?_ | refine blk_alloc ?_ _)); exact BK585.out) hb); replace BK586 := bA (blk_below (g := gb586) (o := .cells #[.bool true, .bool true, .bool (((rd_T41 l0 x29_2).f1) == t581), .bool true] 56 (0, 0)) (by (with_reducible repeat (first | refine blk_drewN ?_ _ | refine blk_drew ?_ | refine blk_alloc ?_ _)); refine blk_put (cs := #[.bool true, .bool true, .bool (((rd_T41 l0 x29_2).f1) == t581), .bool true]) ?_ 3 _ rfl; (with_reducible repeat (first | refine blk_drewN ?_ _ | refine blk_drew ?_ | refine blk_alloc ?_ _)); refine blk_put (cs := #[.bool true, .bool true, .bool false, .bool true]) ?_ 2 _ rfl; (with_reducible repeat (first | refine blk_drewN ?_ _ | refine blk_drew ?_ | refine blk_alloc ?_ _)); refine blk_put (cs := #[.bool true, .bool true, .bool false, .bool true]) ?_ 1 _ rfl; (with_reducible repeat (first | refine blk_drewN ?_ _ | refine blk_drew ?_ | refine blk_alloc ?_ _)); refine blk_put (cs := #[.bool true, .bool true, .bool false, .bool true]) ?_ 0 _ rfl; (repeat ((with_reducible repeat (first | refine blk_drewN ?_ _ | refine blk_drew ?_ | refine blk_alloc ?_ _)); refine blk_far ?_ NB586_588.out _)); (with_reducible repeat (first | refine blk_drewN ?_ _ | refine blk_drew ?_ | refine blk_alloc ?_ _)); exact BK586.out) hb); replace BK588 := bA (blk_below (g := gb588) (o := .cells #[.int .i64 ((rd_T41 l0 x29_2).f0), .int .i64 ((rd_T41 l0 x29_2).f1)] 41 (0, 0)) (by (repeat ((with_reducible repeat (first | refine blk_drewN ?_ _ | refine blk_drew ?_ | refine blk_alloc ?_ _)); refine blk_far ?_ NB588_586.out _)); (with_reducible repeat (first | refine blk_drewN ?_ _ | refine blk_drew ?_ | refine blk_alloc ?_ _)); refine blk_put (cs := #[.int .i64 ((rd_T41 l0 x29_2).f0), .int .i64 0]) ?_ 1 _ rfl; (with_reducible repeat (first | refine blk_drewN ?_ _ | refine blk_drew ?_ | refine blk_alloc ?_ _)); refine blk_put (cs := #[.int .i64 0, .int .i64 0]) ?_ 0 _ rfl; (with_reducible repeat (first | refine blk_drewN ?_ _ | refine blk_drew ?_ | refine blk_alloc ?_ _)); exact BK588.out) hb); replace HB := bA (bS hb); (try clear hb)))
      go_roundg k2
      case measure => have := HJ1.out; have := HK2.out; omega
      case rel => exact ⟨(wrap64 (x29_2 + 1)), (true), (true), ((((rd_T41 l0 x29_2).f1) == t581)), (true), bs, H', ⟨by have := HJ1.out; have := HK2.out; omega⟩, ⟨by (with_reducible repeat (first | refine blk_drewN ?_ _ | refine blk_drew ?_ | refine blk_alloc ?_ _)); exact BK585.out⟩, ⟨by (with_reducible repeat (first | refine blk_drewN ?_ _ | refine blk_drew ?_ | refine blk_alloc ?_ _)); exact BK586.out⟩, ⟨bX⟩⟩
     replace c57 := Bool.eq_false_iff.mpr c57
     subst c57
     rw [if_neg bn] at H
     by_cases c72 : ((rd_T41 l0 x29_2).f0) < t580
     ·rw [if_pos c72] at H
      exact absurd H (by simp)
     rw [if_neg c72] at H
     have c72b0 : decide (((rd_T41 l0 x29_2).f0) < t580) = false := decide_eq_false c72
     clear c72
     by_cases c73 : ((rd_T41 l0 x29_2).f0) > t582
     ·rw [if_pos c73] at H
      exact absurd H (by simp)
     rw [if_neg c73] at H
     have c73b0 : decide (t582 < ((rd_T41 l0 x29_2).f0)) = false := decide_eq_false c73
     clear c73
     by_cases c74 : ((rd_T41 l0 x29_2).f1) < t581
     ·rw [if_pos c74] at H
      exact absurd H (by simp)
     rw [if_neg c74] at H
     have c74b0 : decide (((rd_T41 l0 x29_2).f1) < t581) = false := decide_eq_false c74
     clear c74
     by_cases c75 : ((rd_T41 l0 x29_2).f1) > t583
     ·rw [if_pos c75] at H
      exact absurd H (by simp)
     rw [if_neg c75] at H
     have c75b0 : decide (t583 < ((rd_T41 l0 x29_2).f1)) = false := decide_eq_false c75
     clear c75
     replace H := Option.bind_eq_some_iff.mp H
     obtain ⟨t592, A760, H⟩ := H
     have A76 := bA A760
     clear A760
     by_cases c77 : t592 < 0
     ·rw [if_pos c77] at H
      exact absurd H (by simp)
     rw [if_neg c77] at H
     have c77b0 : decide (t592 < 0) = false := decide_eq_false c77
     clear c77
     have H' := bA H
     clear H
     have p587 : 0 ≤ (x29_2 : Int) := bo
     have q587 : x29_2 < (l0.length : Int) := bo
     obtain ⟨ad587, e587, hx587_0, hx587_1⟩ := at_T41 HR0.out x29_2 p587 q587
     cases e587
     replace hx587_0 := bK hx587_0
     replace hx587_1 := bK hx587_1
     replace p587 := eq_true p587
     replace q587 := eq_true q587
     go_wp2_with (first | ((with_reducible refine gate_dst (N := 7) rfl ?_); refine bE (N := 7) (cs := #[.int .i64 0, .int .i64 0]) (t := 41) ?_; intro gb588 hg w78 hbox hb; have BK588 := bA (hbox); have GW588 := bA (bZ hg); have GE588 := bA (bZ hg); have NB585_588 := bA (bL BK585 hg); have NB588_585 := bA (bG BK585 hg); have NB586_588 := bA (bL BK586 hg); have NB588_586 := bA (bG BK586 hg); replace BK585 := bA (bB BK585 hb); replace BK586 := bA (bB BK586 hb); replace HB := bA (bS hb); clear hb hbox hg; have hnb79 := NB588_585.out; have hnc79 := NB585_588.out; have hnb80 := NB588_586.out; have hnc80 := NB586_588.out; obtain ⟨hcz81_0, hcz81_1, hfz81_0, hfz81_1⟩ := bc2 BK588; have hnb82 := NB586_585.out; have hnc82 := NB585_586.out; obtain ⟨hcz83_0, hcz83_1, hcz83_2, hcz83_3, hfz83_0, hfz83_1, hfz83_2, hfz83_3⟩ := bc4 BK586; obtain ⟨hcz84_0, hcz84_1, hcz84_2, hcz84_3, hfz84_0, hfz84_1, hfz84_2, hfz84_3⟩ := bc4 BK585) | (go_at_call 32; (with_reducible refine (poly_Side.calls k2 _ _ l0 ((rd_T41 l0 x29_2).f0) ((rd_T41 l0 x29_2).f1) t592 _ ?side1 ?side2 A76.out).mono ?_); (case side1 => exact Kd.C_below HR0.out bX); (case side2 => exact HC0.out); rintro e w85 ⟨rfl, hb⟩; replace BK585 := bA (blk_below (g := gb585) (o := .cells #[.int .i64 t580, .int .i64 t581, .int .i64 t582, .int .i64 t583] 44 (0, 0)) (by (repeat ((with_reducible repeat (first | refine blk_drewN ?_ _ | refine blk_drew ?_ | refine blk_alloc ?_ _)); refine blk_far ?_ NB585_586.out _)); (repeat ((with_reducible repeat (first | refine blk_drewN ?_ _ | refine blk_drew ?_ | refine blk_alloc ?_ _)); refine blk_far ?_ NB585_588.out _)); (with_reducible repeat (first | refine blk_drewN ?_ _ | refine blk_drew ?_ | refine blk_alloc ?_ _)); exact BK585.out) hb); replace BK586 := bA (blk_below (g := gb586) (o := .cells #[.bool true, .bool true, .bool (((rd_T41 l0 x29_2).f1) == t581), .bool (((rd_T41 l0 x29_2).f1) == t583)] 56 (0, 0)) (by (with_reducible repeat (first | refine blk_drewN ?_ _ | refine blk_drew ?_ | refine blk_alloc ?_ _)); refine blk_put (cs := #[.bool true, .bool true, .bool (((rd_T41 l0 x29_2).f1) == t581), .bool false]) ?_ 3 _ rfl; (with_reducible repeat (first | refine blk_drewN ?_ _ | refine blk_drew ?_ | refine blk_alloc ?_ _)); refine blk_put (cs := #[.bool true, .bool true, .bool false, .bool false]) ?_ 2 _ rfl; (with_reducible repeat (first | refine blk_drewN ?_ _ | refine blk_drew ?_ | refine blk_alloc ?_ _)); refine blk_put (cs := #[.bool true, .bool true, .bool false, .bool false]) ?_ 1 _ rfl; (with_reducible repeat (first | refine blk_drewN ?_ _ | refine blk_drew ?_ | refine blk_alloc ?_ _)); refine blk_put (cs := #[.bool true, .bool true, .bool false, .bool false]) ?_ 0 _ rfl; (repeat ((with_reducible repeat (first | refine blk_drewN ?_ _ | refine blk_drew ?_ | refine blk_alloc ?_ _)); refine blk_far ?_ NB586_588.out _)); (with_reducible repeat (first | refine blk_drewN ?_ _ | refine blk_drew ?_ | refine blk_alloc ?_ _)); exact BK586.out) hb); replace BK588 := bA (blk_below (g := gb588) (o := .cells #[.int .i64 ((rd_T41 l0 x29_2).f0), .int .i64 ((rd_T41 l0 x29_2).f1)] 41 (0, 0)) (by (repeat ((with_reducible repeat (first | refine blk_drewN ?_ _ | refine blk_drew ?_ | refine blk_alloc ?_ _)); refine blk_far ?_ NB588_586.out _)); (with_reducible repeat (first | refine blk_drewN ?_ _ | refine blk_drew ?_ | refine blk_alloc ?_ _)); refine blk_put (cs := #[.int .i64 ((rd_T41 l0 x29_2).f0), .int .i64 0]) ?_ 1 _ rfl; (with_reducible repeat (first | refine blk_drewN ?_ _ | refine blk_drew ?_ | refine blk_alloc ?_ _)); refine blk_put (cs := #[.int .i64 0, .int .i64 0]) ?_ 0 _ rfl; (with_reducible repeat (first | refine blk_drewN ?_ _ | refine blk_drew ?_ | refine blk_alloc ?_ _)); exact BK588.out) hb); replace HB := bA (bS hb); (try clear hb)))
     go_roundg k2
     case measure => have := HJ1.out; have := HK2.out; omega
     case rel => exact ⟨(wrap64 (x29_2 + 1)), (true), (true), ((((rd_T41 l0 x29_2).f1) == t581)), ((((rd_T41 l0 x29_2).f1) == t583)), bs, H', ⟨by have := HJ1.out; have := HK2.out; omega⟩, ⟨by (with_reducible repeat (first | refine blk_drewN ?_ _ | refine blk_drew ?_ | refine blk_alloc ?_ _)); exact BK585.out⟩, ⟨by (with_reducible repeat (first | refine blk_drewN ?_ _ | refine blk_drew ?_ | refine blk_alloc ?_ _)); exact BK586.out⟩, ⟨bX⟩⟩
    replace c26 := Bool.eq_false_iff.mpr c26
    subst c26
    rw [if_neg bn] at H
    by_cases c86 : x587002_2 = true
    ·subst c86
     rw [if_pos rfl] at H
     by_cases c87 : x587003_2 = true
     ·subst c87
      rw [if_pos rfl] at H
      by_cases c88 : ((rd_T41 l0 x29_2).f0) < t580
      ·rw [if_pos c88] at H
       exact absurd H (by simp)
      rw [if_neg c88] at H
      have c88b0 : decide (((rd_T41 l0 x29_2).f0) < t580) = false := decide_eq_false c88
      clear c88
      by_cases c89 : ((rd_T41 l0 x29_2).f0) > t582
      ·rw [if_pos c89] at H
       exact absurd H (by simp)
      rw [if_neg c89] at H
      have c89b0 : decide (t582 < ((rd_T41 l0 x29_2).f0)) = false := decide_eq_false c89
      clear c89
      by_cases c90 : ((rd_T41 l0 x29_2).f1) < t581
      ·rw [if_pos c90] at H
       exact absurd H (by simp)
      rw [if_neg c90] at H
      have c90b0 : decide (((rd_T41 l0 x29_2).f1) < t581) = false := decide_eq_false c90
      clear c90
      by_cases c91 : ((rd_T41 l0 x29_2).f1) > t583
      ·rw [if_pos c91] at H
       exact absurd H (by simp)
      rw [if_neg c91] at H
      have c91b0 : decide (t583 < ((rd_T41 l0 x29_2).f1)) = false := decide_eq_false c91
      clear c91
      replace H := Option.bind_eq_some_iff.mp H
      obtain ⟨t593, A920, H⟩ := H
      have A92 := bA A920
      clear A920
      by_cases c93 : t593 < 0
      ·rw [if_pos c93] at H
       exact absurd H (by simp)
      rw [if_neg c93] at H
      have c93b0 : decide (t593 < 0) = false := decide_eq_false c93
      clear c93
      have H' := bA H
      clear H
      have p587 : 0 ≤ (x29_2 : Int) := bo
      have q587 : x29_2 < (l0.length : Int) := bo
      obtain ⟨ad587, e587, hx587_0, hx587_1⟩ := at_T41 HR0.out x29_2 p587 q587
      cases e587
      replace hx587_0 := bK hx587_0
      replace hx587_1 := bK hx587_1
      replace p587 := eq_true p587
      replace q587 := eq_true q587
      go_wp2_with (first | ((with_reducible refine gate_dst (N := 7) rfl ?_); refine bE (N := 7) (cs := #[.int .i64 0, .int .i64 0]) (t := 41) ?_; intro gb588 hg w94 hbox hb; have BK588 := bA (hbox); have GW588 := bA (bZ hg); have GE588 := bA (bZ hg); have NB585_588 := bA (bL BK585 hg); have NB588_585 := bA (bG BK585 hg); have NB586_588 := bA (bL BK586 hg); have NB588_586 := bA (bG BK586 hg); replace BK585 := bA (bB BK585 hb); replace BK586 := bA (bB BK586 hb); replace HB := bA (bS hb); clear hb hbox hg; have hnb95 := NB588_585.out; have hnc95 := NB585_588.out; have hnb96 := NB588_586.out; have hnc96 := NB586_588.out; obtain ⟨hcz97_0, hcz97_1, hfz97_0, hfz97_1⟩ := bc2 BK588; have hnb98 := NB586_585.out; have hnc98 := NB585_586.out; obtain ⟨hcz99_0, hcz99_1, hcz99_2, hcz99_3, hfz99_0, hfz99_1, hfz99_2, hfz99_3⟩ := bc4 BK586; obtain ⟨hcz100_0, hcz100_1, hcz100_2, hcz100_3, hfz100_0, hfz100_1, hfz100_2, hfz100_3⟩ := bc4 BK585) | (go_at_call 32; (with_reducible refine (poly_Side.calls k2 _ _ l0 ((rd_T41 l0 x29_2).f0) ((rd_T41 l0 x29_2).f1) t593 _ ?side1 ?side2 A92.out).mono ?_); (case side1 => exact Kd.C_below HR0.out bX); (case side2 => exact HC0.out); rintro e w101 ⟨rfl, hb⟩; replace BK585 := bA (blk_below (g := gb585) (o := .cells #[.int .i64 t580, .int .i64 t581, .int .i64 t582, .int .i64 t583] 44 (0, 0)) (by (repeat ((with_reducible repeat (first | refine blk_drewN ?_ _ | refine blk_drew ?_ | refine blk_alloc ?_ _)); refine blk_far ?_ NB585_586.out _)); (repeat ((with_reducible repeat (first | refine blk_drewN ?_ _ | refine blk_drew ?_ | refine blk_alloc ?_ _)); refine blk_far ?_ NB585_588.out _)); (with_reducible repeat (first | refine blk_drewN ?_ _ | refine blk_drew ?_ | refine blk_alloc ?_ _)); exact BK585.out) hb); replace BK586 := bA (blk_below (g := gb586) (o := .cells #[.bool true, .bool (((rd_T41 l0 x29_2).f0) == t582), .bool true, .bool true] 56 (0, 0)) (by (with_reducible repeat (first | refine blk_drewN ?_ _ | refine blk_drew ?_ | refine blk_alloc ?_ _)); refine blk_put (cs := #[.bool true, .bool (((rd_T41 l0 x29_2).f0) == t582), .bool true, .bool true]) ?_ 3 _ rfl; (with_reducible repeat (first | refine blk_drewN ?_ _ | refine blk_drew ?_ | refine blk_alloc ?_ _)); refine blk_put (cs := #[.bool true, .bool (((rd_T41 l0 x29_2).f0) == t582), .bool true, .bool true]) ?_ 2 _ rfl; (with_reducible repeat (first | refine blk_drewN ?_ _ | refine blk_drew ?_ | refine blk_alloc ?_ _)); refine blk_put (cs := #[.bool true, .bool false, .bool true, .bool true]) ?_ 1 _ rfl; (with_reducible repeat (first | refine blk_drewN ?_ _ | refine blk_drew ?_ | refine blk_alloc ?_ _)); refine blk_put (cs := #[.bool true, .bool false, .bool true, .bool true]) ?_ 0 _ rfl; (repeat ((with_reducible repeat (first | refine blk_drewN ?_ _ | refine blk_drew ?_ | refine blk_alloc ?_ _)); refine blk_far ?_ NB586_588.out _)); (with_reducible repeat (first | refine blk_drewN ?_ _ | refine blk_drew ?_ | refine blk_alloc ?_ _)); exact BK586.out) hb); replace BK588 := bA (blk_below (g := gb588) (o := .cells #[.int .i64 ((rd_T41 l0 x29_2).f0), .int .i64 ((rd_T41 l0 x29_2).f1)] 41 (0, 0)) (by (repeat ((with_reducible repeat (first | refine blk_drewN ?_ _ | refine blk_drew ?_ | refine blk_alloc ?_ _)); refine blk_far ?_ NB588_586.out _)); (with_reducible repeat (first | refine blk_drewN ?_ _ | refine blk_drew ?_ | refine blk_alloc ?_ _)); refine blk_put (cs := #[.int .i64 ((rd_T41 l0 x29_2).f0), .int .i64 0]) ?_ 1 _ rfl; (with_reducible repeat (first | refine blk_drewN ?_ _ | refine blk_drew ?_ | refine blk_alloc ?_ _)); refine blk_put (cs := #[.int .i64 0, .int .i64 0]) ?_ 0 _ rfl; (with_reducible repeat (first | refine blk_drewN ?_ _ | refine blk_drew ?_ | refine blk_alloc ?_ _)); exact BK588.out) hb); replace HB := bA (bS hb); (try clear hb)))
      go_roundg k2
      case measure => have := HJ1.out; have := HK2.out; omega
      case rel => exact ⟨(wrap64 (x29_2 + 1)), (true), ((((rd_T41 l0 x29_2).f0) == t582)), (true), (true), bs, H', ⟨by have := HJ1.out; have := HK2.out; omega⟩, ⟨by (with_reducible repeat (first | refine blk_drewN ?_ _ | refine blk_drew ?_ | refine blk_alloc ?_ _)); exact BK585.out⟩, ⟨by (with_reducible repeat (first | refine blk_drewN ?_ _ | refine blk_drew ?_ | refine blk_alloc ?_ _)); exact BK586.out⟩, ⟨bX⟩⟩
     replace c87 := Bool.eq_false_iff.mpr c87
     subst c87
     rw [if_neg bn] at H
     by_cases c102 : ((rd_T41 l0 x29_2).f0) < t580
     ·rw [if_pos c102] at H
      exact absurd H (by simp)
     rw [if_neg c102] at H
     have c102b0 : decide (((rd_T41 l0 x29_2).f0) < t580) = false := decide_eq_false c102
     clear c102
     by_cases c103 : ((rd_T41 l0 x29_2).f0) > t582
     ·rw [if_pos c103] at H
      exact absurd H (by simp)
     rw [if_neg c103] at H
     have c103b0 : decide (t582 < ((rd_T41 l0 x29_2).f0)) = false := decide_eq_false c103
     clear c103
     by_cases c104 : ((rd_T41 l0 x29_2).f1) < t581
     ·rw [if_pos c104] at H
      exact absurd H (by simp)
     rw [if_neg c104] at H
     have c104b0 : decide (((rd_T41 l0 x29_2).f1) < t581) = false := decide_eq_false c104
     clear c104
     by_cases c105 : ((rd_T41 l0 x29_2).f1) > t583
     ·rw [if_pos c105] at H
      exact absurd H (by simp)
     rw [if_neg c105] at H
     have c105b0 : decide (t583 < ((rd_T41 l0 x29_2).f1)) = false := decide_eq_false c105
     clear c105
     replace H := Option.bind_eq_some_iff.mp H
     obtain ⟨t594, A1060, H⟩ := H
     have A106 := bA A1060
     clear A1060
     by_cases c107 : t594 < 0
     ·rw [if_pos c107] at H
      exact absurd H (by simp)
     rw [if_neg c107] at H
     have c107b0 : decide (t594 < 0) = false := decide_eq_false c107
     clear c107
     have H' := bA H
     clear H
     have p587 : 0 ≤ (x29_2 : Int) := bo
     have q587 : x29_2 < (l0.length : Int) := bo
     obtain ⟨ad587, e587, hx587_0, hx587_1⟩ := at_T41 HR0.out x29_2 p587 q587
     cases e587
     replace hx587_0 := bK hx587_0
     replace hx587_1 := bK hx587_1
     replace p587 := eq_true p587
     replace q587 := eq_true q587
     go_wp2_with (first | ((with_reducible refine gate_dst (N := 7) rfl ?_); refine bE (N := 7) (cs := #[.int .i64 0, .int .i64 0]) (t := 41) ?_; intro gb588 hg w108 hbox hb; have BK588 := bA (hbox); have GW588 := bA (bZ hg); have GE588 := bA (bZ hg); have NB585_588 := bA (bL BK585 hg); have NB588_585 := bA (bG BK585 hg); have NB586_588 := bA (bL BK586 hg); have NB588_586 := bA (bG BK586 hg); replace BK585 := bA (bB BK585 hb); replace BK586 := bA (bB BK586 hb); replace HB := bA (bS hb); clear hb hbox hg; have hnb109 := NB588_585.out; have hnc109 := NB585_588.out; have hnb110 := NB588_586.out; have hnc110 := NB586_588.out; obtain ⟨hcz111_0, hcz111_1, hfz111_0, hfz111_1⟩ := bc2 BK588; have hnb112 := NB586_585.out; have hnc112 := NB585_586.out; obtain ⟨hcz113_0, hcz113_1, hcz113_2, hcz113_3, hfz113_0, hfz113_1, hfz113_2, hfz113_3⟩ := bc4 BK586; obtain ⟨hcz114_0, hcz114_1, hcz114_2, hcz114_3, hfz114_0, hfz114_1, hfz114_2, hfz114_3⟩ := bc4 BK585) | (go_at_call 32; (with_reducible refine (poly_Side.calls k2 _ _ l0 ((rd_T41 l0 x29_2).f0) ((rd_T41 l0 x29_2).f1) t594 _ ?side1 ?side2 A106.out).mono ?_); (case side1 => exact Kd.C_below HR0.out bX); (case side2 => exact HC0.out); rintro e w115 ⟨rfl, hb⟩; replace BK585 := bA (blk_below (g := gb585) (o := .cells #[.int .i64 t580, .int .i64 t581, .int .i64 t582, .int .i64 t583] 44 (0, 0)) (by (repeat ((with_reducible repeat (first | refine blk_drewN ?_ _ | refine blk_drew ?_ | refine blk_alloc ?_ _)); refine blk_far ?_ NB585_586.out _)); (repeat ((with_reducible repeat (first | refine blk_drewN ?_ _ | refine blk_drew ?_ | refine blk_alloc ?_ _)); refine blk_far ?_ NB585_588.out _)); (with_reducible repeat (first | refine blk_drewN ?_ _ | refine blk_drew ?_ | refine blk_alloc ?_ _)); exact BK585.out) hb); replace BK586 := bA (blk_below (g := gb586) (o := .cells #[.bool true, .bool (((rd_T41 l0 x29_2).f0) == t582), .bool true, .bool (((rd_T41 l0 x29_2).f1) == t583)] 56 (0, 0)) (by (with_reducible repeat (first | refine blk_drewN ?_ _ | refine blk_drew ?_ | refine blk_alloc ?_ _)); refine blk_put (cs := #[.bool true, .bool (((rd_T41 l0 x29_2).f0) == t582), .bool true, .bool false]) ?_ 3 _ rfl; (with_reducible repeat (first | refine blk_drewN ?_ _ | refine blk_drew ?_ | refine blk_alloc ?_ _)); refine blk_put (cs := #[.bool true, .bool (((rd_T41 l0 x29_2).f0) == t582), .bool true, .bool false]) ?_ 2 _ rfl; (with_reducible repeat (first | refine blk_drewN ?_ _ | refine blk_drew ?_ | refine blk_alloc ?_ _)); refine blk_put (cs := #[.bool true, .bool false, .bool true, .bool false]) ?_ 1 _ rfl; (with_reducible repeat (first | refine blk_drewN ?_ _ | refine blk_drew ?_ | refine blk_alloc ?_ _)); refine blk_put (cs := #[.bool true, .bool false, .bool true, .bool false]) ?_ 0 _ rfl; (repeat ((with_reducible repeat (first | refine blk_drewN ?_ _ | refine blk_drew ?_ | refine blk_alloc ?_ _)); refine blk_far ?_ NB586_588.out _)); (with_reducible repeat (first | refine blk_drewN ?_ _ | refine blk_drew ?_ | refine blk_alloc ?_ _)); exact BK586.out) hb); replace BK588 := bA (blk_below (g := gb588) (o := .cells #[.int .i64 ((rd_T41 l0 x29_2).f0), .int .i64 ((rd_T41 l0 x29_2).f1)] 41 (0, 0)) (by (repeat ((with_reducible repeat (first | refine blk_drewN ?_ _ | refine blk_drew ?_ | refine blk_alloc ?_ _)); refine blk_far ?_ NB588_586.out _)); (with_reducible repeat (first | refine blk_drewN ?_ _ | refine blk_drew ?_ | refine blk_alloc ?_ _)); refine blk_put (cs := #[.int .i64 ((rd_T41 l0 x29_2).f0), .int .i64 0]) ?_ 1 _ rfl; (with_reducible repeat (first | refine blk_drewN ?_ _ | refine blk_drew ?_ | refine blk_alloc ?_ _)); refine blk_put (cs := #[.int .i64 0, .int .i64 0]) ?_ 0 _ rfl; (with_reducible repeat (first | refine blk_drewN ?_ _ | refine blk_drew ?_ | refine blk_alloc ?_ _)); exact BK588.out) hb); replace HB := bA (bS hb); (try clear hb)))
     go_roundg k2
     case measure => have := HJ1.out; have := HK2.out; omega
     case rel => exact ⟨(wrap64 (x29_2 + 1)), (true), ((((rd_T41 l0 x29_2).f0) == t582)), (true), ((((rd_T41 l0 x29_2).f1) == t583)), bs, H', ⟨by have := HJ1.out; have := HK2.out; omega⟩, ⟨by (with_reducible repeat (first | refine blk_drewN ?_ _ | refine blk_drew ?_ | refine blk_alloc ?_ _)); exact BK585.out⟩, ⟨by (with_reducible repeat (first | refine blk_drewN ?_ _ | refine blk_drew ?_ | refine blk_alloc ?_ _)); exact BK586.out⟩, ⟨bX⟩⟩
    replace c86 := Bool.eq_false_iff.mpr c86
    subst c86
    rw [if_neg bn] at H
    by_cases c116 : x587003_2 = true
    ·subst c116
     rw [if_pos rfl] at H
     by_cases c117 : ((rd_T41 l0 x29_2).f0) < t580
     ·rw [if_pos c117] at H
      exact absurd H (by simp)
     rw [if_neg c117] at H
     have c117b0 : decide (((rd_T41 l0 x29_2).f0) < t580) = false := decide_eq_false c117
     clear c117
     by_cases c118 : ((rd_T41 l0 x29_2).f0) > t582
     ·rw [if_pos c118] at H
      exact absurd H (by simp)
     rw [if_neg c118] at H
     have c118b0 : decide (t582 < ((rd_T41 l0 x29_2).f0)) = false := decide_eq_false c118
     clear c118
     by_cases c119 : ((rd_T41 l0 x29_2).f1) < t581
     ·rw [if_pos c119] at H
      exact absurd H (by simp)
     rw [if_neg c119] at H
     have c119b0 : decide (((rd_T41 l0 x29_2).f1) < t581) = false := decide_eq_false c119
     clear c119
     by_cases c120 : ((rd_T41 l0 x29_2).f1) > t583
     ·rw [if_pos c120] at H
      exact absurd H (by simp)
     rw [if_neg c120] at H
     have c120b0 : decide (t583 < ((rd_T41 l0 x29_2).f1)) = false := decide_eq_false c120
     clear c120
     replace H := Option.bind_eq_some_iff.mp H
     obtain ⟨t595, A1210, H⟩ := H
     have A121 := bA A1210
     clear A1210
     by_cases c122 : t595 < 0
     ·rw [if_pos c122] at H
      exact absurd H (by simp)
     rw [if_neg c122] at H
     have c122b0 : decide (t595 < 0) = false := decide_eq_false c122
     clear c122
     have H' := bA H
     clear H
     have p587 : 0 ≤ (x29_2 : Int) := bo
     have q587 : x29_2 < (l0.length : Int) := bo
     obtain ⟨ad587, e587, hx587_0, hx587_1⟩ := at_T41 HR0.out x29_2 p587 q587
     cases e587
     replace hx587_0 := bK hx587_0
     replace hx587_1 := bK hx587_1
     replace p587 := eq_true p587
     replace q587 := eq_true q587
     go_wp2_with (first | ((with_reducible refine gate_dst (N := 7) rfl ?_); refine bE (N := 7) (cs := #[.int .i64 0, .int .i64 0]) (t := 41) ?_; intro gb588 hg w123 hbox hb; have BK588 := bA (hbox); have GW588 := bA (bZ hg); have GE588 := bA (bZ hg); have NB585_588 := bA (bL BK585 hg); have NB588_585 := bA (bG BK585 hg); have NB586_588 := bA (bL BK586 hg); have NB588_586 := bA (bG BK586 hg); replace BK585 := bA (bB BK585 hb); replace BK586 := bA (bB BK586 hb); replace HB := bA (bS hb); clear hb hbox hg; have hnb124 := NB588_585.out; have hnc124 := NB585_588.out; have hnb125 := NB588_586.out; have hnc125 := NB586_588.out; obtain ⟨hcz126_0, hcz126_1, hfz126_0, hfz126_1⟩ := bc2 BK588; have hnb127 := NB586_585.out; have hnc127 := NB585_586.out; obtain ⟨hcz128_0, hcz128_1, hcz128_2, hcz128_3, hfz128_0, hfz128_1, hfz128_2, hfz128_3⟩ := bc4 BK586; obtain ⟨hcz129_0, hcz129_1, hcz129_2, hcz129_3, hfz129_0, hfz129_1, hfz129_2, hfz129_3⟩ := bc4 BK585) | (go_at_call 32; (with_reducible refine (poly_Side.calls k2 _ _ l0 ((rd_T41 l0 x29_2).f0) ((rd_T41 l0 x29_2).f1) t595 _ ?side1 ?side2 A121.out).mono ?_); (case side1 => exact Kd.C_below HR0.out bX); (case side2 => exact HC0.out); rintro e w130 ⟨rfl, hb⟩; replace BK585 := bA (blk_below (g := gb585) (o := .cells #[.int .i64 t580, .int .i64 t581, .int .i64 t582, .int .i64 t583] 44 (0, 0)) (by (repeat ((with_reducible repeat (first | refine blk_drewN ?_ _ | refine blk_drew ?_ | refine blk_alloc ?_ _)); refine blk_far ?_ NB585_586.out _)); (repeat ((with_reducible repeat (first | refine blk_drewN ?_ _ | refine blk_drew ?_ | refine blk_alloc ?_ _)); refine blk_far ?_ NB585_588.out _)); (with_reducible repeat (first | refine blk_drewN ?_ _ | refine blk_drew ?_ | refine blk_alloc ?_ _)); exact BK585.out) hb); replace BK586 := bA (blk_below (g := gb586) (o := .cells #[.bool true, .bool (((rd_T41 l0 x29_2).f0) == t582), .bool (((rd_T41 l0 x29_2).f1) == t581), .bool true] 56 (0, 0)) (by (with_reducible repeat (first | refine blk_drewN ?_ _ | refine blk_drew ?_ | refine blk_alloc ?_ _)); refine blk_put (cs := #[.bool true, .bool (((rd_T41 l0 x29_2).f0) == t582), .bool (((rd_T41 l0 x29_2).f1) == t581), .bool true]) ?_ 3 _ rfl; (with_reducible repeat (first | refine blk_drewN ?_ _ | refine blk_drew ?_ | refine blk_alloc ?_ _)); refine blk_put (cs := #[.bool true, .bool (((rd_T41 l0 x29_2).f0) == t582), .bool false, .bool true]) ?_ 2 _ rfl; (with_reducible repeat (first | refine blk_drewN ?_ _ | refine blk_drew ?_ | refine blk_alloc ?_ _)); refine blk_put (cs := #[.bool true, .bool false, .bool false, .bool true]) ?_ 1 _ rfl; (with_reducible repeat (first | refine blk_drewN ?_ _ | refine blk_drew ?_ | refine blk_alloc ?_ _)); refine blk_put (cs := #[.bool true, .bool false, .bool false, .bool true]) ?_ 0 _ rfl; (repeat ((with_reducible repeat (first | refine blk_drewN ?_ _ | refine blk_drew ?_ | refine blk_alloc ?_ _)); refine blk_far ?_ NB586_588.out _)); (with_reducible repeat (first | refine blk_drewN ?_ _ | refine blk_drew ?_ | refine blk_alloc ?_ _)); exact BK586.out) hb); replace BK588 := bA (blk_below (g := gb588) (o := .cells #[.int .i64 ((rd_T41 l0 x29_2).f0), .int .i64 ((rd_T41 l0 x29_2).f1)] 41 (0, 0)) (by (repeat ((with_reducible repeat (first | refine blk_drewN ?_ _ | refine blk_drew ?_ | refine blk_alloc ?_ _)); refine blk_far ?_ NB588_586.out _)); (with_reducible repeat (first | refine blk_drewN ?_ _ | refine blk_drew ?_ | refine blk_alloc ?_ _)); refine blk_put (cs := #[.int .i64 ((rd_T41 l0 x29_2).f0), .int .i64 0]) ?_ 1 _ rfl; (with_reducible repeat (first | refine blk_drewN ?_ _ | refine blk_drew ?_ | refine blk_alloc ?_ _)); refine blk_put (cs := #[.int .i64 0, .int .i64 0]) ?_ 0 _ rfl; (with_reducible repeat (first | refine blk_drewN ?_ _ | refine blk_drew ?_ | refine blk_alloc ?_ _)); exact BK588.out) hb); replace HB := bA (bS hb); (try clear hb)))
     go_roundg k2
     case measure => have := HJ1.out; have := HK2.out; omega
     case rel => exact ⟨(wrap64 (x29_2 + 1)), (true), ((((rd_T41 l0 x29_2).f0) == t582)), ((((rd_T41 l0 x29_2).f1) == t581)), (true), bs, H', ⟨by have := HJ1.out; have := HK2.out; omega⟩, ⟨by (with_reducible repeat (first | refine blk_drewN ?_ _ | refine blk_drew ?_ | refine blk_alloc ?_ _)); exact BK585.out⟩, ⟨by (with_reducible repeat (first | refine blk_drewN ?_ _ | refine blk_drew ?_ | refine blk_alloc ?_ _)); exact BK586.out⟩, ⟨bX⟩⟩
    replace c116 := Bool.eq_false_iff.mpr c116
    subst c116
    rw [if_neg bn] at H
    by_cases c131 : ((rd_T41 l0 x29_2).f0) < t580
    ·rw [if_pos c131] at H
     exact absurd H (by simp)
    rw [if_neg c131] at H
    have c131b0 : decide (((rd_T41 l0 x29_2).f0) < t580) = false := decide_eq_false c131
    clear c131
    by_cases c132 : ((rd_T41 l0 x29_2).f0) > t582
    ·rw [if_pos c132] at H
     exact absurd H (by simp)
    rw [if_neg c132] at H
    have c132b0 : decide (t582 < ((rd_T41 l0 x29_2).f0)) = false := decide_eq_false c132
    clear c132
    by_cases c133 : ((rd_T41 l0 x29_2).f1) < t581
    ·rw [if_pos c133] at H
     exact absurd H (by simp)
    rw [if_neg c133] at H
    have c133b0 : decide (((rd_T41 l0 x29_2).f1) < t581) = false := decide_eq_false c133
    clear c133
    by_cases c134 : ((rd_T41 l0 x29_2).f1) > t583
    ·rw [if_pos c134] at H
     exact absurd H (by simp)
    rw [if_neg c134] at H
    have c134b0 : decide (t583 < ((rd_T41 l0 x29_2).f1)) = false := decide_eq_false c134
    clear c134
    replace H := Option.bind_eq_some_iff.mp H
    obtain ⟨t596, A1350, H⟩ := H
    have A135 := bA A1350
    clear A1350
    by_cases c136 : t596 < 0
    ·rw [if_pos c136] at H
     exact absurd H (by simp)
    rw [if_neg c136] at H
    have c136b0 : decide (t596 < 0) = false := decide_eq_false c136
    clear c136
    have H' := bA H
    clear H
    have p587 : 0 ≤ (x29_2 : Int) := bo
    have q587 : x29_2 < (l0.length : Int) := bo
    obtain ⟨ad587, e587, hx587_0, hx587_1⟩ := at_T41 HR0.out x29_2 p587 q587
    cases e587
    replace hx587_0 := bK hx587_0
    replace hx587_1 := bK hx587_1
    replace p587 := eq_true p587
    replace q587 := eq_true q587
    go_wp2_with (first | ((with_reducible refine gate_dst (N := 7) rfl ?_); refine bE (N := 7) (cs := #[.int .i64 0, .int .i64 0]) (t := 41) ?_; intro gb588 hg w137 hbox hb; have BK588 := bA (hbox); have GW588 := bA (bZ hg); have GE588 := bA (bZ hg); have NB585_588 := bA (bL BK585 hg); have NB588_585 := bA (bG BK585 hg); have NB586_588 := bA (bL BK586 hg); have NB588_586 := bA (bG BK586 hg); replace BK585 := bA (bB BK585 hb); replace BK586 := bA (bB BK586 hb); replace HB := bA (bS hb); clear hb hbox hg; have hnb138 := NB588_585.out; have hnc138 := NB585_588.out; have hnb139 := NB588_586.out; have hnc139 := NB586_588.out; obtain ⟨hcz140_0, hcz140_1, hfz140_0, hfz140_1⟩ := bc2 BK588; have hnb141 := NB586_585.out; have hnc141 := NB585_586.out; obtain ⟨hcz142_0, hcz142_1, hcz142_2, hcz142_3, hfz142_0, hfz142_1, hfz142_2, hfz142_3⟩ := bc4 BK586; obtain ⟨hcz143_0, hcz143_1, hcz143_2, hcz143_3, hfz143_0, hfz143_1, hfz143_2, hfz143_3⟩ := bc4 BK585) | (go_at_call 32; (with_reducible refine (poly_Side.calls k2 _ _ l0 ((rd_T41 l0 x29_2).f0) ((rd_T41 l0 x29_2).f1) t596 _ ?side1 ?side2 A135.out).mono ?_); (case side1 => exact Kd.C_below HR0.out bX); (case side2 => exact HC0.out); rintro e w144 ⟨rfl, hb⟩; replace BK585 := bA (blk_below (g := gb585) (o := .cells #[.int .i64 t580, .int .i64 t581, .int .i64 t582, .int .i64 t583] 44 (0, 0)) (by (repeat ((with_reducible repeat (first | refine blk_drewN ?_ _ | refine blk_drew ?_ | refine blk_alloc ?_ _)); refine blk_far ?_ NB585_586.out _)); (repeat ((with_reducible repeat (first | refine blk_drewN ?_ _ | refine blk_drew ?_ | refine blk_alloc ?_ _)); refine blk_far ?_ NB585_588.out _)); (with_reducible repeat (first | refine blk_drewN ?_ _ | refine blk_drew ?_ | refine blk_alloc ?_ _)); exact BK585.out) hb); replace BK586 := bA (blk_below (g := gb586) (o := .cells #[.bool true, .bool (((rd_T41 l0 x29_2).f0) == t582), .bool (((rd_T41 l0 x29_2).f1) == t581), .bool (((rd_T41 l0 x29_2).f1) == t583)] 56 (0, 0)) (by (with_reducible repeat (first | refine blk_drewN ?_ _ | refine blk_drew ?_ | refine blk_alloc ?_ _)); refine blk_put (cs := #[.bool true, .bool (((rd_T41 l0 x29_2).f0) == t582), .bool (((rd_T41 l0 x29_2).f1) == t581), .bool false]) ?_ 3 _ rfl; (with_reducible repeat (first | refine blk_drewN ?_ _ | refine blk_drew ?_ | refine blk_alloc ?_ _)); refine blk_put (cs := #[.bool true, .bool (((rd_T41 l0 x29_2).f0) == t582), .bool false, .bool false]) ?_ 2 _ rfl; (with_reducible repeat (first | refine blk_drewN ?_ _ | refine blk_drew ?_ | refine blk_alloc ?_ _)); refine blk_put (cs := #[.bool true, .bool false, .bool false, .bool false]) ?_ 1 _ rfl; (with_reducible repeat (first | refine blk_drewN ?_ _ | refine blk_drew ?_ | refine blk_alloc ?_ _)); refine blk_put (cs := #[.bool true, .bool false, .bool false, .bool false]) ?_ 0 _ rfl; (repeat ((with_reducible repeat (first | refine blk_drewN ?_ _ | refine blk_drew ?_ | refine blk_alloc ?_ _)); refine blk_far ?_ NB586_588.out _)); (with_reducible repeat (first | refine blk_drewN ?_ _ | refine blk_drew ?_ | refine blk_alloc ?_ _)); exact BK586.out) hb); replace BK588 := bA (blk_below (g := gb588) (o := .cells #[.int .i64 ((rd_T41 l0 x29_2).f0), .int .i64 ((rd_T41 l0 x29_2).f1)] 41 (0, 0)) (by (repeat ((with_reducible repeat (first | refine blk_drewN ?_ _ | refine blk_drew ?_ | refine blk_alloc ?_ _)); refine blk_far ?_ NB588_586.out _)); (with_reducible repeat (first | refine blk_drewN ?_ _ | refine blk_drew ?_ | refine blk_alloc ?_ _)); refine blk_put (cs := #[.int .i64 ((rd_T41 l0 x29_2).f0), .int .i64 0]) ?_ 1 _ rfl; (with_reducible repeat (first | refine blk_drewN ?_ _ | refine blk_drew ?_ | refine blk_alloc ?_ _)); refine blk_put (cs := #[.int .i64 0, .int .i64 0]) ?_ 0 _ rfl; (with_reducible repeat (first | refine blk_drewN ?_ _ | refine blk_drew ?_ | refine blk_alloc ?_ _)); exact BK588.out) hb); replace HB := bA (bS hb); (try clear hb)))
    go_roundg k2
    case measure => have := HJ1.out; have := HK2.out; omega
    case rel => exact ⟨(wrap64 (x29_2 + 1)), (true), ((((rd_T41 l0 x29_2).f0) == t582)), ((((rd_T41 l0 x29_2).f1) == t581)), ((((rd_T41 l0 x29_2).f1) == t583)), bs, H', ⟨by have := HJ1.out; have := HK2.out; omega⟩, ⟨by (with_reducible repeat (first | refine blk_drewN ?_ _ | refine blk_drew ?_ | refine blk_alloc ?_ _)); exact BK585.out⟩, ⟨by (with_reducible repeat (first | refine blk_drewN ?_ _ | refine blk_drew ?_ | refine blk_alloc ?_ _)); exact BK586.out⟩, ⟨bX⟩⟩
   replace c25 := Bool.eq_false_iff.mpr c25
   subst c25
   rw [if_neg bn] at H
   by_cases c145 : x587001_2 = true
   ·subst c145
    rw [if_pos rfl] at H
    by_cases c146 : x587002_2 = true
    ·subst c146
     rw [if_pos rfl] at H
     by_cases c147 : x587003_2 = true
     ·subst c147
      rw [if_pos rfl] at H
      by_cases c148 : ((rd_T41 l0 x29_2).f0) < t580
      ·rw [if_pos c148] at H
       exact absurd H (by simp)
      rw [if_neg c148] at H
      have c148b0 : decide (((rd_T41 l0 x29_2).f0) < t580) = false := decide_eq_false c148
      clear c148
      by_cases c149 : ((rd_T41 l0 x29_2).f0) > t582
      ·rw [if_pos c149] at H
       exact absurd H (by simp)
      rw [if_neg c149] at H
      have c149b0 : decide (t582 < ((rd_T41 l0 x29_2).f0)) = false := decide_eq_false c149
      clear c149
      by_cases c150 : ((rd_T41 l0 x29_2).f1) < t581
      ·rw [if_pos c150] at H
       exact absurd H (by simp)
      rw [if_neg c150] at H
      have c150b0 : decide (((rd_T41 l0 x29_2).f1) < t581) = false := decide_eq_false c150
      clear c150
      by_cases c151 : ((rd_T41 l0 x29_2).f1) > t583
      ·rw [if_pos c151] at H
       exact absurd H (by simp)
      rw [if_neg c151] at H
      have c151b0 : decide (t583 < ((rd_T41 l0 x29_2).f1)) = false := decide_eq_false c151
      clear c151
      replace H := Option.bind_eq_some_iff.mp H
      obtain ⟨t597, A1520, H⟩ := H
      have A152 := bA A1520
      clear A1520
      by_cases c153 : t597 < 0
      ·rw [if_pos c153] at H
       exact absurd H (by simp)
      rw [if_neg c153] at H
      have c153b0 : decide (t597 < 0) = false := decide_eq_false c153
      clear c153
      have H' := bA H
      clear H
      have p587 : 0 ≤ (x29_2 : Int) := bo
      have q587 : x29_2 < (l0.length : Int) := bo
      obtain ⟨ad587, e587, hx587_0, hx587_1⟩ := at_T41 HR0.out x29_2 p587 q587
      cases e587
      replace hx587_0 := bK hx587_0
      replace hx587_1 := bK hx587_1
      replace p587 := eq_true p587
      replace q587 := eq_true q587
      go_wp2_with (first | ((with_reducible refine gate_dst (N := 7) rfl ?_); refine bE (N := 7) (cs := #[.int .i64 0, .int .i64 0]) (t := 41) ?_; intro gb588 hg w154 hbox hb; have BK588 := bA (hbox); have GW588 := bA (bZ hg); have GE588 := bA (bZ hg); have NB585_588 := bA (bL BK585 hg); have NB588_585 := bA (bG BK585 hg); have NB586_588 := bA (bL BK586 hg); have NB588_586 := bA (bG BK586 hg); replace BK585 := bA (bB BK585 hb); replace BK586 := bA (bB BK586 hb); replace HB := bA (bS hb); clear hb hbox hg; have hnb155 := NB588_585.out; have hnc155 := NB585_588.out; have hnb156 := NB588_586.out; have hnc156 := NB586_588.out; obtain ⟨hcz157_0, hcz157_1, hfz157_0, hfz157_1⟩ := bc2 BK588; have hnb158 := NB586_585.out; have hnc158 := NB585_586.out; obtain ⟨hcz159_0, hcz159_1, hcz159_2, hcz159_3, hfz159_0, hfz159_1, hfz159_2, hfz159_3⟩ := bc4 BK586; obtain ⟨hcz160_0, hcz160_1, hcz160_2, hcz160_3, hfz160_0, hfz160_1, hfz160_2, hfz160_3⟩ := bc4 BK585) | (go_at_call 32; (with_reducible refine (poly_Side.calls k2 _ _ l0 ((rd_T41 l0 x29_2).f0) ((rd_T41 l0 x29_2).f1) t597 _ ?side1 ?side2 A152.out).mono ?_); (case side1 => exact Kd.C_below HR0.out bX); (case side2 => exact HC0.out); rintro e w161 ⟨rfl, hb⟩; replace BK585 := bA (blk_below (g := gb585) (o := .cells #[.int .i64 t580, .int .i64 t581, .int .i64 t582, .int .i64 t583] 44 (0, 0)) (by (repeat ((with_reducible repeat (first | refine blk_drewN ?_ _ | refine blk_drew ?_ | refine blk_alloc ?_ _)); refine blk_far ?_ NB585_586.out _)); (repeat ((with_reducible repeat (first | refine blk_drewN ?_ _ | refine blk_drew ?_ | refine blk_alloc ?_ _)); refine blk_far ?_ NB585_588.out _)); (with_reducible repeat (first | refine blk_drewN ?_ _ | refine blk_drew ?_ | refine blk_alloc ?_ _)); exact BK585.out) hb); replace BK586 := bA (blk_below (g := gb586) (o := .cells #[.bool (((rd_T41 l0 x29_2).f0) == t580), .bool true, .bool true, .bool true] 56 (0, 0)) (by (with_reducible repeat (first | refine blk_drewN ?_ _ | refine blk_drew ?_ | refine blk_alloc ?_ _)); refine blk_put (cs := #[.bool (((rd_T41 l0 x29_2).f0) == t580), .bool true, .bool true, .bool true]) ?_ 3 _ rfl; (with_reducible repeat (first | refine blk_drewN ?_ _ | refine blk_drew ?_ | refine blk_alloc ?_ _)); refine blk_put (cs := #[.bool (((rd_T41 l0 x29_2).f0) == t580), .bool true, .bool true, .bool true]) ?_ 2 _ rfl; (with_reducible repeat (first | refine blk_drewN ?_ _ | refine blk_drew ?_ | refine blk_alloc ?_ _)); refine blk_put (cs := #[.bool (((rd_T41 l0 x29_2).f0) == t580), .bool true, .bool true, .bool true]) ?_ 1 _ rfl; (with_reducible repeat (first | refine blk_drewN ?_ _ | refine blk_drew ?_ | refine blk_alloc ?_ _)); refine blk_put (cs := #[.bool false, .bool true, .bool true, .bool true]) ?_ 0 _ rfl; (repeat ((with_reducible repeat (first | refine blk_drewN ?_ _ | refine blk_drew ?_ | refine blk_alloc ?_ _)); refine blk_far ?_ NB586_588.out _)); (with_reducible repeat (first | refine blk_drewN ?_ _ | refine blk_drew ?_ | refine blk_alloc ?_ _)); exact BK586.out) hb); replace BK588 := bA (blk_below (g := gb588) (o := .cells #[.int .i64 ((rd_T41 l0 x29_2).f0), .int .i64 ((rd_T41 l0 x29_2).f1)] 41 (0, 0)) (by (repeat ((with_reducible repeat (first | refine blk_drewN ?_ _ | refine blk_drew ?_ | refine blk_alloc ?_ _)); refine blk_far ?_ NB588_586.out _)); (with_reducible repeat (first | refine blk_drewN ?_ _ | refine blk_drew ?_ | refine blk_alloc ?_ _)); refine blk_put (cs := #[.int .i64 ((rd_T41 l0 x29_2).f0), .int .i64 0]) ?_ 1 _ rfl; (with_reducible repeat (first | refine blk_drewN ?_ _ | refine blk_drew ?_ | refine blk_alloc ?_ _)); refine blk_put (cs := #[.int .i64 0, .int .i64 0]) ?_ 0 _ rfl; (with_reducible repeat (first | refine blk_drewN ?_ _ | refine blk_drew ?_ | refine blk_alloc ?_ _)); exact BK588.out) hb); replace HB := bA (bS hb); (try clear hb)))
      go_roundg k2
      case measure => have := HJ1.out; have := HK2.out; omega
      case rel => exact ⟨(wrap64 (x29_2 + 1)), ((((rd_T41 l0 x29_2).f0) == t580)), (true), (true), (true), bs, H', ⟨by have := HJ1.out; have := HK2.out; omega⟩, ⟨by (with_reducible repeat (first | refine blk_drewN ?_ _ | refine blk_drew ?_ | refine blk_alloc ?_ _)); exact BK585.out⟩, ⟨by (with_reducible repeat (first | refine blk_drewN ?_ _ | refine blk_drew ?_ | refine blk_alloc ?_ _)); exact BK586.out⟩, ⟨bX⟩⟩
     replace c147 := Bool.eq_false_iff.mpr c147
     subst c147
     rw [if_neg bn] at H
     by_cases c162 : ((rd_T41 l0 x29_2).f0) < t580
     ·rw [if_pos c162] at H
      exact absurd H (by simp)
     rw [if_neg c162] at H
     have c162b0 : decide (((rd_T41 l0 x29_2).f0) < t580) = false := decide_eq_false c162
     clear c162
     by_cases c163 : ((rd_T41 l0 x29_2).f0) > t582
     ·rw [if_pos c163] at H
      exact absurd H (by simp)
     rw [if_neg c163] at H
     have c163b0 : decide (t582 < ((rd_T41 l0 x29_2).f0)) = false := decide_eq_false c163
     clear c163
     by_cases c164 : ((rd_T41 l0 x29_2).f1) < t581
     ·rw [if_pos c164] at H
      exact absurd H (by simp)
     rw [if_neg c164] at H
     have c164b0 : decide (((rd_T41 l0 x29_2).f1) < t581) = false := decide_eq_false c164
     clear c164
     by_cases c165 : ((rd_T41 l0 x29_2).f1) > t583
     ·rw [if_pos c165] at H
      exact absurd H (by simp)
     rw [if_neg c165] at H
     have c165b0 : decide (t583 < ((rd_T41 l0 x29_2).f1)) = false := decide_eq_false c165
     clear c165
     replace H := Option.bind_eq_some_iff.mp H
     obtain ⟨t598, A1660, H⟩ := H
     have A166 := bA A1660
     clear A1660
     by_cases c167 : t598 < 0
     ·rw [if_pos c167] at H
      exact absurd H (by simp)
     rw [if_neg c167] at H
     have c167b0 : decide (t598 < 0) = false := decide_eq_false c167
     clear c167
     have H' := bA H
     clear H
     have p587 : 0 ≤ (x29_2 : Int) := bo
     have q587 : x29_2 < (l0.length : Int) := bo
     obtain ⟨ad587, e587, hx587_0, hx587_1⟩ := at_T41 HR0.out x29_2 p587 q587
     cases e587
     replace hx587_0 := bK hx587_0
     replace hx587_1 := bK hx587_1
     replace p587 := eq_true p587
     replace q587 := eq_true q587
     go_wp2_with (first | ((with_reducible refine gate_dst (N := 7) rfl ?_); refine bE (N := 7) (cs := #[.int .i64 0, .int .i64 0]) (t := 41) ?_; intro gb588 hg w168 hbox hb; have BK588 := bA (hbox); have GW588 := bA (bZ hg); have GE588 := bA (bZ hg); have NB585_588 := bA (bL BK585 hg); have NB588_585 := bA (bG BK585 hg); have NB586_588 := bA (bL BK586 hg); have NB588_586 := bA (bG BK586 hg); replace BK585 := bA (bB BK585 hb); replace BK586 := bA (bB BK586 hb); replace HB := bA (bS hb); clear hb hbox hg; have hnb169 := NB588_585.out; have hnc169 := NB585_588.out; have hnb170 := NB588_586.out; have hnc170 := NB586_588.out; obtain ⟨hcz171_0, hcz171_1, hfz171_0, hfz171_1⟩ := bc2 BK588; have hnb172 := NB586_585.out; have hnc172 := NB585_586.out; obtain ⟨hcz173_0, hcz173_1, hcz173_2, hcz173_3, hfz173_0, hfz173_1, hfz173_2, hfz173_3⟩ := bc4 BK586; obtain ⟨hcz174_0, hcz174_1, hcz174_2, hcz174_3, hfz174_0, hfz174_1, hfz174_2, hfz174_3⟩ := bc4 BK585) | (go_at_call 32; (with_reducible refine (poly_Side.calls k2 _ _ l0 ((rd_T41 l0 x29_2).f0) ((rd_T41 l0 x29_2).f1) t598 _ ?side1 ?side2 A166.out).mono ?_); (case side1 => exact Kd.C_below HR0.out bX); (case side2 => exact HC0.out); rintro e w175 ⟨rfl, hb⟩; replace BK585 := bA (blk_below (g := gb585) (o := .cells #[.int .i64 t580, .int .i64 t581, .int .i64 t582, .int .i64 t583] 44 (0, 0)) (by (repeat ((with_reducible repeat (first | refine blk_drewN ?_ _ | refine blk_drew ?_ | refine blk_alloc ?_ _)); refine blk_far ?_ NB585_586.out _)); (repeat ((with_reducible repeat (first | refine blk_drewN ?_ _ | refine blk_drew ?_ | refine blk_alloc ?_ _)); refine blk_far ?_ NB585_588.out _)); (with_reducible repeat (first | refine blk_drewN ?_ _ | refine blk_drew ?_ | refine blk_alloc ?_ _)); exact BK585.out) hb); replace BK586 := bA (blk_below (g := gb586) (o := .cells #[.bool (((rd_T41 l0 x29_2).f0) == t580), .bool true, .bool true, .bool (((rd_T41 l0 x29_2).f1) == t583)] 56 (0, 0)) (by (with_reducible repeat (first | refine blk_drewN ?_ _ | refine blk_drew ?_ | refine blk_alloc ?_ _)); refine blk_put (cs := #[.bool (((rd_T41 l0 x29_2).f0) == t580), .bool true, .bool true, .bool false]) ?_ 3 _ rfl; (with_reducible repeat (first | refine blk_drewN ?_ _ | refine blk_drew ?_ | refine blk_alloc ?_ _)); refine blk_put (cs := #[.bool (((rd_T41 l0 x29_2).f0) == t580), .bool true, .bool true, .bool false]) ?_ 2 _ rfl; (with_reducible repeat (first | refine blk_drewN ?_ _ | refine blk_drew ?_ | refine blk_alloc ?_ _)); refine blk_put (cs := #[.bool (((rd_T41 l0 x29_2).f0) == t580), .bool true, .bool true, .bool false]) ?_ 1 _ rfl; (with_reducible repeat (first | refine blk_drewN ?_ _ | refine blk_drew ?_ | refine blk_alloc ?_ _)); refine blk_put (cs := #[.bool false, .bool true, .bool true, .bool false]) ?_ 0 _ rfl; (repeat ((with_reducible repeat (first | refine blk_drewN ?_ _ | refine blk_drew ?_ | refine blk_alloc ?_ _)); refine blk_far ?_ NB586_588.out _)); (with_reducible repeat (first | refine blk_drewN ?_ _ | refine blk_drew ?_ | refine blk_alloc ?_ _)); exact BK586.out) hb); replace BK588 := bA (blk_below (g := gb588) (o := .cells #[.int .i64 ((rd_T41 l0 x29_2).f0), .int .i64 ((rd_T41 l0 x29_2).f1)] 41 (0, 0)) (by (repeat ((with_reducible repeat (first | refine blk_drewN ?_ _ | refine blk_drew ?_ | refine blk_alloc ?_ _)); refine blk_far ?_ NB588_586.out _)); (with_reducible repeat (first | refine blk_drewN ?_ _ | refine blk_drew ?_ | refine blk_alloc ?_ _)); refine blk_put (cs := #[.int .i64 ((rd_T41 l0 x29_2).f0), .int .i64 0]) ?_ 1 _ rfl; (with_reducible repeat (first | refine blk_drewN ?_ _ | refine blk_drew ?_ | refine blk_alloc ?_ _)); refine blk_put (cs := #[.int .i64 0, .int .i64 0]) ?_ 0 _ rfl; (with_reducible repeat (first | refine blk_drewN ?_ _ | refine blk_drew ?_ | refine blk_alloc ?_ _)); exact BK588.out) hb); replace HB := bA (bS hb); (try clear hb)))
     go_roundg k2
     case measure => have := HJ1.out; have := HK2.out; omega
     case rel => exact ⟨(wrap64 (x29_2 + 1)), ((((rd_T41 l0 x29_2).f0) == t580)), (true), (true), ((((rd_T41 l0 x29_2).f1) == t583)), bs, H', ⟨by have := HJ1.out; have := HK2.out; omega⟩, ⟨by (with_reducible repeat (first | refine blk_drewN ?_ _ | refine blk_drew ?_ | refine blk_alloc ?_ _)); exact BK585.out⟩, ⟨by (with_reducible repeat (first | refine blk_drewN ?_ _ | refine blk_drew ?_ | refine blk_alloc ?_ _)); exact BK586.out⟩, ⟨bX⟩⟩
    replace c146 := Bool.eq_false_iff.mpr c146
    subst c146
    rw [if_neg bn] at H
    by_cases c176 : x587003_2 = true
    ·subst c176
     rw [if_pos rfl] at H
     by_cases c177 : ((rd_T41 l0 x29_2).f0) < t580
     ·rw [if_pos c177] at H
      exact absurd H (by simp)
     rw [if_neg c177] at H
     have c177b0 : decide (((rd_T41 l0 x29_2).f0) < t580) = false := decide_eq_false c177
     clear c177
     by_cases c178 : ((rd_T41 l0 x29_2).f0) > t582
     ·rw [if_pos c178] at H
      exact absurd H (by simp)
     rw [if_neg c178] at H
     have c178b0 : decide (t582 < ((rd_T41 l0 x29_2).f0)) = false := decide_eq_false c178
     clear c178
     by_cases c179 : ((rd_T41 l0 x29_2).f1) < t581
     ·rw [if_pos c179] at H
      exact absurd H (by simp)
     rw [if_neg c179] at H
     have c179b0 : decide (((rd_T41 l0 x29_2).f1) < t581) = false := decide_eq_false c179
     clear c179
     by_cases c180 : ((rd_T41 l0 x29_2).f1) > t583
     ·rw [if_pos c180] at H
      exact absurd H (by simp)
     rw [if_neg c180] at H
     have c180b0 : decide (t583 < ((rd_T41 l0 x29_2).f1)) = false := decide_eq_false c180
     clear c180
     replace H := Option.bind_eq_some_iff.mp H
     obtain ⟨t599, A1810, H⟩ := H
     have A181 := bA A1810
     clear A1810
     by_cases c182 : t599 < 0
     ·rw [if_pos c182] at H
      exact absurd H (by simp)
     rw [if_neg c182] at H
     have c182b0 : decide (t599 < 0) = false := decide_eq_false c182
     clear c182
     have H' := bA H
     clear H
     have p587 : 0 ≤ (x29_2 : Int) := bo
     have q587 : x29_2 < (l0.length : Int) := bo
     obtain ⟨ad587, e587, hx587_0, hx587_1⟩ := at_T41 HR0.out x29_2 p587 q587
     cases e587
     replace hx587_0 := bK hx587_0
     replace hx587_1 := bK hx587_1
     replace p587 := eq_true p587
     replace q587 := eq_true q587
     go_wp2_with (first | ((with_reducible refine gate_dst (N := 7) rfl ?_); refine bE (N := 7) (cs := #[.int .i64 0, .int .i64 0]) (t := 41) ?_; intro gb588 hg w183 hbox hb; have BK588 := bA (hbox); have GW588 := bA (bZ hg); have GE588 := bA (bZ hg); have NB585_588 := bA (bL BK585 hg); have NB588_585 := bA (bG BK585 hg); have NB586_588 := bA (bL BK586 hg); have NB588_586 := bA (bG BK586 hg); replace BK585 := bA (bB BK585 hb); replace BK586 := bA (bB BK586 hb); replace HB := bA (bS hb); clear hb hbox hg; have hnb184 := NB588_585.out; have hnc184 := NB585_588.out; have hnb185 := NB588_586.out; have hnc185 := NB586_588.out; obtain ⟨hcz186_0, hcz186_1, hfz186_0, hfz186_1⟩ := bc2 BK588; have hnb187 := NB586_585.out; have hnc187 := NB585_586.out; obtain ⟨hcz188_0, hcz188_1, hcz188_2, hcz188_3, hfz188_0, hfz188_1, hfz188_2, hfz188_3⟩ := bc4 BK586; obtain ⟨hcz189_0, hcz189_1, hcz189_2, hcz189_3, hfz189_0, hfz189_1, hfz189_2, hfz189_3⟩ := bc4 BK585) | (go_at_call 32; (with_reducible refine (poly_Side.calls k2 _ _ l0 ((rd_T41 l0 x29_2).f0) ((rd_T41 l0 x29_2).f1) t599 _ ?side1 ?side2 A181.out).mono ?_); (case side1 => exact Kd.C_below HR0.out bX); (case side2 => exact HC0.out); rintro e w190 ⟨rfl, hb⟩; replace BK585 := bA (blk_below (g := gb585) (o := .cells #[.int .i64 t580, .int .i64 t581, .int .i64 t582, .int .i64 t583] 44 (0, 0)) (by (repeat ((with_reducible repeat (first | refine blk_drewN ?_ _ | refine blk_drew ?_ | refine blk_alloc ?_ _)); refine blk_far ?_ NB585_586.out _)); (repeat ((with_reducible repeat (first | refine blk_drewN ?_ _ | refine blk_drew ?_ | refine blk_alloc ?_ _)); refine blk_far ?_ NB585_588.out _)); (with_reducible repeat (first | refine blk_drewN ?_ _ | refine blk_drew ?_ | refine blk_alloc ?_ _)); exact BK585.out) hb); replace BK586 := bA (blk_below (g := gb586) (o := .cells #[.bool (((rd_T41 l0 x29_2).f0) == t580), .bool true, .bool (((rd_T41 l0 x29_2).f1) == t581), .bool true] 56 (0, 0)) (by (with_reducible repeat (first | refine blk_drewN ?_ _ | refine blk_drew ?_ | refine blk_alloc ?_ _)); refine blk_put (cs := #[.bool (((rd_T41 l0 x29_2).f0) == t580), .bool true, .bool (((rd_T41 l0 x29_2).f1) == t581), .bool true]) ?_ 3 _ rfl; (with_reducible repeat (first | refine blk_drewN ?_ _ | refine blk_drew ?_ | refine blk_alloc ?_ _)); refine blk_put (cs := #[.bool (((rd_T41 l0 x29_2).f0) == t580), .bool true, .bool false, .bool true]) ?_ 2 _ rfl; (with_reducible repeat (first | refine blk_drewN ?_ _ | refine blk_drew ?_ | refine blk_alloc ?_ _)); refine blk_put (cs := #[.bool (((rd_T41 l0 x29_2).f0) == t580), .bool true, .bool false, .bool true]) ?_ 1 _ rfl; (with_reducible repeat (first | refine blk_drewN ?_ _ | refine blk_drew ?_ | refine blk_alloc ?_ _)); refine blk_put (cs := #[.bool false, .bool true, .bool false, .bool true]) ?_ 0 _ rfl; (repeat ((with_reducible repeat (first | refine blk_drewN ?_ _ | refine blk_drew ?_ | refine blk_alloc ?_ _)); refine blk_far ?_ NB586_588.out _)); (with_reducible repeat (first | refine blk_drewN ?_ _ | refine blk_drew ?_ | refine blk_alloc ?_ _)); exact BK586.out) hb); replace BK588 := bA (blk_below (g := gb588) (o := .cells #[.int .i64 ((rd_T41 l0 x29_2).f0), .int .i64 ((rd_T41 l0 x29_2).f1)] 41 (0, 0)) (by (repeat ((with_reducible repeat (first | refine blk_drewN ?_ _ | refine blk_drew ?_ | refine blk_alloc ?_ _)); refine blk_far ?_ NB588_586.out _)); (with_reducible repeat (first | refine blk_drewN ?_ _ | refine blk_drew ?_ | refine blk_alloc ?_ _)); refine blk_put (cs := #[.int .i64 ((rd_T41 l0 x29_2).f0), .int .i64 0]) ?_ 1 _ rfl; (with_reducible repeat (first | refine blk_drewN ?_ _ | refine blk_drew ?_ | refine blk_alloc ?_ _)); refine blk_put (cs := #[.int .i64 0, .int .i64 0]) ?_ 0 _ rfl; (with_reducible repeat (first | refine blk_drewN ?_ _ | refine blk_drew ?_ | refine blk_alloc ?_ _)); exact BK588.out) hb); replace HB := bA (bS hb); (try clear hb)))
     go_roundg k2
     case measure => have := HJ1.out; have := HK2.out; omega
     case rel => exact ⟨(wrap64 (x29_2 + 1)), ((((rd_T41 l0 x29_2).f0) == t580)), (true), ((((rd_T41 l0 x29_2).f1) == t581)), (true), bs, H', ⟨by have := HJ1.out; have := HK2.out; omega⟩, ⟨by (with_reducible repeat (first | refine blk_drewN ?_ _ | refine blk_drew ?_ | refine blk_alloc ?_ _)); exact BK585.out⟩, ⟨by (with_reducible repeat (first | refine blk_drewN ?_ _ | refine blk_drew ?_ | refine blk_alloc ?_ _)); exact BK586.out⟩, ⟨bX⟩⟩
    replace c176 := Bool.eq_false_iff.mpr c176
    subst c176
    rw [if_neg bn] at H
    by_cases c191 : ((rd_T41 l0 x29_2).f0) < t580
    ·rw [if_pos c191] at H
     exact absurd H (by simp)
    rw [if_neg c191] at H
    have c191b0 : decide (((rd_T41 l0 x29_2).f0) < t580) = false := decide_eq_false c191
    clear c191
    by_cases c192 : ((rd_T41 l0 x29_2).f0) > t582
    ·rw [if_pos c192] at H
     exact absurd H (by simp)
    rw [if_neg c192] at H
    have c192b0 : decide (t582 < ((rd_T41 l0 x29_2).f0)) = false := decide_eq_false c192
    clear c192
    by_cases c193 : ((rd_T41 l0 x29_2).f1) < t581
    ·rw [if_pos c193] at H
     exact absurd H (by simp)
    rw [if_neg c193] at H
    have c193b0 : decide (((rd_T41 l0 x29_2).f1) < t581) = false := decide_eq_false c193
    clear c193
    by_cases c194 : ((rd_T41 l0 x29_2).f1) > t583
    ·rw [if_pos c194] at H
     exact absurd H (by simp)
    rw [if_neg c194] at H
    have c194b0 : decide (t583 < ((rd_T41 l0 x29_2).f1)) = false := decide_eq_false c194
    clear c194
    replace H := Option.bind_eq_some_iff.mp H
    obtain ⟨t600, A1950, H⟩ := H
    have A195 := bA A1950
    clear A1950
    by_cases c196 : t600 < 0
    ·rw [if_pos c196] at H
     exact absurd H (by simp)
    rw [if_neg c196] at H
    have c196b0 : decide (t600 < 0) = false := decide_eq_false c196
    clear c196
    have H' := bA H
    clear H
    have p587 : 0 ≤ (x29_2 : Int) := bo
    have q587 : x29_2 < (l0.length : Int) := bo
    obtain ⟨ad587, e587, hx587_0, hx587_1⟩ := at_T41 HR0.out x29_2 p587 q587
    cases e587
    replace hx587_0 := bK hx587_0
    replace hx587_1 := bK hx587_1
    replace p587 := eq_true p587
    replace q587 := eq_true q587
    go_wp2_with (first | ((with_reducible refine gate_dst (N := 7) rfl ?_); refine bE (N := 7) (cs := #[.int .i64 0, .int .i64 0]) (t := 41) ?_; intro gb588 hg w197 hbox hb; have BK588 := bA (hbox); have GW588 := bA (bZ hg); have GE588 := bA (bZ hg); have NB585_588 := bA (bL BK585 hg); have NB588_585 := bA (bG BK585 hg); have NB586_588 := bA (bL BK586 hg); have NB588_586 := bA (bG BK586 hg); replace BK585 := bA (bB BK585 hb); replace BK586 := bA (bB BK586 hb); replace HB := bA (bS hb); clear hb hbox hg; have hnb198 := NB588_585.out; have hnc198 := NB585_588.out; have hnb199 := NB588_586.out; have hnc199 := NB586_588.out; obtain ⟨hcz200_0, hcz200_1, hfz200_0, hfz200_1⟩ := bc2 BK588; have hnb201 := NB586_585.out; have hnc201 := NB585_586.out; obtain ⟨hcz202_0, hcz202_1, hcz202_2, hcz202_3, hfz202_0, hfz202_1, hfz202_2, hfz202_3⟩ := bc4 BK586; obtain ⟨hcz203_0, hcz203_1, hcz203_2, hcz203_3, hfz203_0, hfz203_1, hfz203_2, hfz203_3⟩ := bc4 BK585) | (go_at_call 32; (with_reducible refine (poly_Side.calls k2 _ _ l0 ((rd_T41 l0 x29_2).f0) ((rd_T41 l0 x29_2).f1) t600 _ ?side1 ?side2 A195.out).mono ?_); (case side1 => exact Kd.C_below HR0.out bX); (case side2 => exact HC0.out); rintro e w204 ⟨rfl, hb⟩; replace BK585 := bA (blk_below (g := gb585) (o := .cells #[.int .i64 t580, .int .i64 t581, .int .i64 t582, .int .i64 t583] 44 (0, 0)) (by (repeat ((with_reducible repeat (first | refine blk_drewN ?_ _ | refine blk_drew ?_ | refine blk_alloc ?_ _)); refine blk_far ?_ NB585_586.out _)); (repeat ((with_reducible repeat (first | refine blk_drewN ?_ _ | refine blk_drew ?_ | refine blk_alloc ?_ _)); refine blk_far ?_ NB585_588.out _)); (with_reducible repeat (first | refine blk_drewN ?_ _ | refine blk_drew ?_ | refine blk_alloc ?_ _)); exact BK585.out) hb); replace BK586 := bA (blk_below (g := gb586) (o := .cells #[.bool (((rd_T41 l0 x29_2).f0) == t580), .bool true, .bool (((rd_T41 l0 x29_2).f1) == t581), .bool (((rd_T41 l0 x29_2).f1) == t583)] 56 (0, 0)) (by (with_reducible repeat (first | refine blk_drewN ?_ _ | refine blk_drew ?_ | refine blk_alloc ?_ _)); refine blk_put (cs := #[.bool (((rd_T41 l0 x29_2).f0) == t580), .bool true, .bool (((rd_T41 l0 x29_2).f1) == t581), .bool false]) ?_ 3 _ rfl; (with_reducible repeat (first | refine blk_drewN ?_ _ | refine blk_drew ?_ | refine blk_alloc ?_ _)); refine blk_put (cs := #[.bool (((rd_T41 l0 x29_2).f0) == t580), .bool true, .bool false, .bool false]) ?_ 2 _ rfl; (with_reducible repeat (first | refine blk_drewN ?_ _ | refine blk_drew ?_ | refine blk_alloc ?_ _)); refine blk_put (cs := #[.bool (((rd_T41 l0 x29_2).f0) == t580), .bool true, .bool false, .bool false]) ?_ 1 _ rfl; (with_reducible repeat (first | refine blk_drewN ?_ _ | refine blk_drew ?_ | refine blk_alloc ?_ _)); refine blk_put (cs := #[.bool false, .bool true, .bool false, .bool false]) ?_ 0 _ rfl; (repeat ((with_reducible repeat (first | refine blk_drewN ?_ _ | refine blk_drew ?_ | refine blk_alloc ?_ _)); refine blk_far ?_ NB586_588.out _)); (with_reducible repeat (first | refine blk_drewN ?_ _ | refine blk_drew ?_ | refine blk_alloc ?_ _)); exact BK586.out) hb); replace BK588 := bA (blk_below (g := gb588) (o := .cells #[.int .i64 ((rd_T41 l0 x29_2).f0), .int .i64 ((rd_T41 l0 x29_2).f1)] 41 (0, 0)) (by (repeat ((with_reducible repeat (first | refine blk_drewN ?_ _ | refine blk_drew ?_ | refine blk_alloc ?_ _)); refine blk_far ?_ NB588_586.out _)); (with_reducible repeat (first | refine blk_drewN ?_ _ | refine blk_drew ?_ | refine blk_alloc ?_ _)); refine blk_put (cs := #[.int .i64 ((rd_T41 l0 x29_2).f0), .int .i64 0]) ?_ 1 _ rfl; (with_reducible repeat (first | refine blk_drewN ?_ _ | refine blk_drew ?_ | refine blk_alloc ?_ _)); refine blk_put (cs := #[.int .i64 0, .int .i64 0]) ?_ 0 _ rfl; (with_reducible repeat (first | refine blk_drewN ?_ _ | refine blk_drew ?_ | refine blk_alloc ?_ _)); exact BK588.out) hb); replace HB := bA (bS hb); (try clear hb)))
    go_roundg k2
    case measure => have := HJ1.out; have := HK2.out; omega
    case rel => exact ⟨(wrap64 (x29_2 + 1)), ((((rd_T41 l0 x29_2).f0) == t580)), (true), ((((rd_T41 l0 x29_2).f1) == t581)), ((((rd_T41 l0 x29_2).f1) == t583)), bs, H', ⟨by have := HJ1.out; have := HK2.out; omega⟩, ⟨by (with_reducible repeat (first | refine blk_drewN ?_ _ | refine blk_drew ?_ | refine blk_alloc ?_ _)); exact BK585.out⟩, ⟨by (with_reducible repeat (first | refine blk_drewN ?_ _ | refine blk_drew ?_ | refine blk_alloc ?_ _)); exact BK586.out⟩, ⟨bX⟩⟩
   replace c145 := Bool.eq_false_iff.mpr c145
   subst c145
   rw [if_neg bn] at H
   by_cases c205 : x587002_2 = true
   ·subst c205
    rw [if_pos rfl] at H
    by_cases c206 : x587003_2 = true
    ·subst c206
     rw [if_pos rfl] at H
     by_cases c207 : ((rd_T41 l0 x29_2).f0) < t580
     ·rw [if_pos c207] at H
      exact absurd H (by simp)
     rw [if_neg c207] at H
     have c207b0 : decide (((rd_T41 l0 x29_2).f0) < t580) = false := decide_eq_false c207
     clear c207
     by_cases c208 : ((rd_T41 l0 x29_2).f0) > t582
     ·rw [if_pos c208] at H
      exact absurd H (by simp)
     rw [if_neg c208] at H
     have c208b0 : decide (t582 < ((rd_T41 l0 x29_2).f0)) = false := decide_eq_false c208
     clear c208
     by_cases c209 : ((rd_T41 l0 x29_2).f1) < t581
     ·rw [if_pos c209] at H
      exact absurd H (by simp)
     rw [if_neg c209] at H
     have c209b0 : decide (((rd_T41 l0 x29_2).f1) < t581) = false := decide_eq_false c209
     clear c209
     by_cases c210 : ((rd_T41 l0 x29_2).f1) > t583
     ·rw [if_pos c210] at H
      exact absurd H (by simp)
     rw [if_neg c210] at H
     have c210b0 : decide (t583 < ((rd_T41 l0 x29_2).f1)) = false := decide_eq_false c210
     clear c210
     replace H := Option.bind_eq_some_iff.mp H
     obtain ⟨t601, A2110, H⟩ := H
     have A211 := bA A2110
     clear A2110
     by_cases c212 : t601 < 0
     ·rw [if_pos c212] at H
      exact absurd H (by simp)
     rw [if_neg c212] at H
     have c212b0 : decide (t601 < 0) = false := decide_eq_false c212
     clear c212
     have H' := bA H
     clear H
     have p587 : 0 ≤ (x29_2 : Int) := bo
     have q587 : x29_2 < (l0.length : Int) := bo
     obtain ⟨ad587, e587, hx587_0, hx587_1⟩ := at_T41 HR0.out x29_2 p587 q587
     cases e587
     replace hx587_0 := bK hx587_0
     replace hx587_1 := bK hx587_1
     replace p587 := eq_true p587
     replace q587 := eq_true q587
     go_wp2_with (first | ((with_reducible refine gate_dst (N := 7) rfl ?_); refine bE (N := 7) (cs := #[.int .i64 0, .int .i64 0]) (t := 41) ?_; intro gb588 hg w213 hbox hb; have BK588 := bA (hbox); have GW588 := bA (bZ hg); have GE588 := bA (bZ hg); have NB585_588 := bA (bL BK585 hg); have NB588_585 := bA (bG BK585 hg); have NB586_588 := bA (bL BK586 hg); have NB588_586 := bA (bG BK586 hg); replace BK585 := bA (bB BK585 hb); replace BK586 := bA (bB BK586 hb); replace HB := bA (bS hb); clear hb hbox hg; have hnb214 := NB588_585.out; have hnc214 := NB585_588.out; have hnb215 := NB588_586.out; have hnc215 := NB586_588.out; obtain ⟨hcz216_0, hcz216_1, hfz216_0, hfz216_1⟩ := bc2 BK588; have hnb217 := NB586_585.out; have hnc217 := NB585_586.out; obtain ⟨hcz218_0, hcz218_1, hcz218_2, hcz218_3, hfz218_0, hfz218_1, hfz218_2, hfz218_3⟩ := bc4 BK586; obtain ⟨hcz219_0, hcz219_1, hcz219_2, hcz219_3, hfz219_0, hfz219_1, hfz219_2, hfz219_3⟩ := bc4 BK585) | (go_at_call 32; (with_reducible refine (poly_Side.calls k2 _ _ l0 ((rd_T41 l0 x29_2).f0) ((rd_T41 l0 x29_2).f1) t601 _ ?side1 ?side2 A211.out).mono ?_); (case side1 => exact Kd.C_below HR0.out bX); (case side2 => exact HC0.out); rintro e w220 ⟨rfl, hb⟩; replace BK585 := bA (blk_below (g := gb585) (o := .cells #[.int .i64 t580, .int .i64 t581, .int .i64 t582, .int .i64 t583] 44 (0, 0)) (by (repeat ((with_reducible repeat (first | refine blk_drewN ?_ _ | refine blk_drew ?_ | refine blk_alloc ?_ _)); refine blk_far ?_ NB585_586.out _)); (repeat ((with_reducible repeat (first | refine blk_drewN ?_ _ | refine blk_drew ?_ | refine blk_alloc ?_ _)); refine blk_far ?_ NB585_588.out _)); (with_reducible repeat (first | refine blk_drewN ?_ _ | refine blk_drew ?_ | refine blk_alloc ?_ _)); exact BK585.out) hb); replace BK586 := bA (blk_below (g := gb586) (o := .cells #[.bool (((rd_T41 l0 x29_2).f0) == t580), .bool (((rd_T41 l0 x29_2).f0) == t582), .bool true, .bool true] 56 (0, 0)) (by (with_reducible repeat (first | refine blk_drewN ?_ _ | refine blk_drew ?_ | refine blk_alloc ?_ _)); refine blk_put (cs := #[.bool (((rd_T41 l0 x29_2).f0) == t580), .bool (((rd_T41 l0 x29_2).f0) == t582), .bool true, .bool true]) ?_ 3 _ rfl; (with_reducible repeat (first | refine blk_drewN ?_ _ | refine blk_drew ?_ | refine blk_alloc ?_ _)); refine blk_put (cs := #[.bool (((rd_T41 l0 x29_2).f0) == t580), .bool (((rd_T41 l0 x29_2).f0) == t582), .bool true, .bool true]) ?_ 2 _ rfl; (with_reducible repeat (first | refine blk_drewN ?_ _ | refine blk_drew ?_ | refine blk_alloc ?_ _)); refine blk_put (cs := #[.bool (((rd_T41 l0 x29_2).f0) == t580), .bool false, .bool true, .bool true]) ?_ 1 _ rfl; (with_reducible repeat (first | refine blk_drewN ?_ _ | refine blk_drew ?_ | refine blk_alloc ?_ _)); refine blk_put (cs := #[.bool false, .bool false, .bool true, .bool true]) ?_ 0 _ rfl; (repeat ((with_reducible repeat (first | refine blk_drewN ?_ _ | refine blk_drew ?_ | refine blk_alloc ?_ _)); refine blk_far ?_ NB586_588.out _)); (with_reducible repeat (first | refine blk_drewN ?_ _ | refine blk_drew ?_ | refine blk_alloc ?_ _)); exact BK586.out) hb); replace BK588 := bA (blk_below (g := gb588) (o := .cells #[.int .i64 ((rd_T41 l0 x29_2).f0), .int .i64 ((rd_T41 l0 x29_2).f1)] 41 (0, 0)) (by (repeat ((with_reducible repeat (first | refine blk_drewN ?_ _ | refine blk_drew ?_ | refine blk_alloc ?_ _)); refine blk_far ?_ NB588_586.out _)); (with_reducible repeat (first | refine blk_drewN ?_ _ | refine blk_drew ?_ | refine blk_alloc ?_ _)); refine blk_put (cs := #[.int .i64 ((rd_T41 l0 x29_2).f0), .int .i64 0]) ?_ 1 _ rfl; (with_reducible repeat (first | refine blk_drewN ?_ _ | refine blk_drew ?_ | refine blk_alloc ?_ _)); refine blk_put (cs := #[.int .i64 0, .int .i64 0]) ?_ 0 _ rfl; (with_reducible repeat (first | refine blk_drewN ?_ _ | refine blk_drew ?_ | refine blk_alloc ?_ _)); exact BK588.out) hb); replace HB := bA (bS hb); (try clear hb)))
     go_roundg k2
     case measure => have := HJ1.out; have := HK2.out; omega
     case rel => exact ⟨(wrap64 (x29_2 + 1)), ((((rd_T41 l0 x29_2).f0) == t580)), ((((rd_T41 l0 x29_2).f0) == t582)), (true), (true), bs, H', ⟨by have := HJ1.out; have := HK2.out; omega⟩, ⟨by (with_reducible repeat (first | refine blk_drewN ?_ _ | refine blk_drew ?_ | refine blk_alloc ?_ _)); exact BK585.out⟩, ⟨by (with_reducible repeat (first | refine blk_drewN ?_ _ | refine blk_drew ?_ | refine blk_alloc ?_ _)); exact BK586.out⟩, ⟨bX⟩⟩
    replace c206 := Bool.eq_false_iff.mpr c206
    subst c206
    rw [if_neg bn] at H
    by_cases c221 : ((rd_T41 l0 x29_2).f0) < t580
    ·rw [if_pos c221] at H
     exact absurd H (by simp)
    rw [if_neg c221] at H
    have c221b0 : decide (((rd_T41 l0 x29_2).f0) < t580) = false := decide_eq_false c221
    clear c221
    by_cases c222 : ((rd_T41 l0 x29_2).f0) > t582
    ·rw [if_pos c222] at H
     exact absurd H (by simp)
    rw [if_neg c222] at H
    have c222b0 : decide (t582 < ((rd_T41 l0 x29_2).f0)) = false := decide_eq_false c222
    clear c222
    by_cases c223 : ((rd_T41 l0 x29_2).f1) < t581
    ·rw [if_pos c223] at H
     exact absurd H (by simp)
    rw [if_neg c223] at H
    have c223b0 : decide (((rd_T41 l0 x29_2).f1) < t581) = false := decide_eq_false c223
    clear c223
    by_cases c224 : ((rd_T41 l0 x29_2).f1) > t583
    ·rw [if_pos c224] at H
     exact absurd H (by simp)
    rw [if_neg c224] at H
    have c224b0 : decide (t583 < ((rd_T41 l0 x29_2).f1)) = false := decide_eq_false c224
    clear c224
    replace H := Option.bind_eq_some_iff.mp H
    obtain ⟨t602, A2250, H⟩ := H
    have A225 := bA A2250
    clear A2250
    by_cases c226 : t602 < 0
    ·rw [if_pos c226] at H
     exact absurd H (by simp)
    rw [if_neg c226] at H
    have c226b0 : decide (t602 < 0) = false := decide_eq_false c226
    clear c226
    have H' := bA H
    clear H
    have p587 : 0 ≤ (x29_2 : Int) := bo
    have q587 : x29_2 < (l0.length : Int) := bo
    obtain ⟨ad587, e587, hx587_0, hx587_1⟩ := at_T41 HR0.out x29_2 p587 q587
    cases e587
    replace hx587_0 := bK hx587_0
    replace hx587_1 := bK hx587_1
    replace p587 := eq_true p587
    replace q587 := eq_true q587
    go_wp2_with (first | ((with_reducible refine gate_dst (N := 7) rfl ?_); refine bE (N := 7) (cs := #[.int .i64 0, .int .i64 0]) (t := 41) ?_; intro gb588 hg w227 hbox hb; have BK588 := bA (hbox); have GW588 := bA (bZ hg); have GE588 := bA (bZ hg); have NB585_588 := bA (bL BK585 hg); have NB588_585 := bA (bG BK585 hg); have NB586_588 := bA (bL BK586 hg); have NB588_586 := bA (bG BK586 hg); replace BK585 := bA (bB BK585 hb); replace BK586 := bA (bB BK586 hb); replace HB := bA (bS hb); clear hb hbox hg; have hnb228 := NB588_585.out; have hnc228 := NB585_588.out; have hnb229 := NB588_586.out; have hnc229 := NB586_588.out; obtain ⟨hcz230_0, hcz230_1, hfz230_0, hfz230_1⟩ := bc2 BK588; have hnb231 := NB586_585.out; have hnc231 := NB585_586.out; obtain ⟨hcz232_0, hcz232_1, hcz232_2, hcz232_3, hfz232_0, hfz232_1, hfz232_2, hfz232_3⟩ := bc4 BK586; obtain ⟨hcz233_0, hcz233_1, hcz233_2, hcz233_3, hfz233_0, hfz233_1, hfz233_2, hfz233_3⟩ := bc4 BK585) | (go_at_call 32; (with_reducible refine (poly_Side.calls k2 _ _ l0 ((rd_T41 l0 x29_2).f0) ((rd_T41 l0 x29_2).f1) t602 _ ?side1 ?side2 A225.out).mono ?_); (case side1 => exact Kd.C_below HR0.out bX); (case side2 => exact HC0.out); rintro e w234 ⟨rfl, hb⟩; replace BK585 := bA (blk_below (g := gb585) (o := .cells #[.int .i64 t580, .int .i64 t581, .int .i64 t582, .int .i64 t583] 44 (0, 0)) (by (repeat ((with_reducible repeat (first | refine blk_drewN ?_ _ | refine blk_drew ?_ | refine blk_alloc ?_ _)); refine blk_far ?_ NB585_586.out _)); (repeat ((with_reducible repeat (first | refine blk_drewN ?_ _ | refine blk_drew ?_ | refine blk_alloc ?_ _)); refine blk_far ?_ NB585_588.out _)); (with_reducible repeat (first | refine blk_drewN ?_ _ | refine blk_drew ?_ | refine blk_alloc ?_ _)); exact BK585.out) hb); replace BK586 := bA (blk_below (g := gb586) (o := .cells #[.bool (((rd_T41 l0 x29_2).f0) == t580), .bool (((rd_T41 l0 x29_2).f0) == t582), .bool true, .bool (((rd_T41 l0 x29_2).f1) == t583)] 56 (0, 0)) (by (with_reducible repeat (first | refine blk_drewN ?_ _ | refine blk_drew ?_ | refine blk_alloc ?_ _)); refine blk_put (cs := #[.bool (((rd_T41 l0 x29_2).f0) == t580), .bool (((rd_T41 l0 x29_2).f0) == t582), .bool true, .bool false]) ?_ 3 _ rfl; (with_reducible repeat (first | refine blk_drewN ?_ _ | refine blk_drew ?_ | refine blk_alloc ?_ _)); refine blk_put (cs := #[.bool (((rd_T41 l0 x29_2).f0) == t580), .bool (((rd_T41 l0 x29_2).f0) == t582), .bool true, .bool false]) ?_ 2 _ rfl; (with_reducible repeat (first | refine blk_drewN ?_ _ | refine blk_drew ?_ | refine blk_alloc ?_ _)); refine blk_put (cs := #[.bool (((rd_T41 l0 x29_2).f0) == t580), .bool false, .bool true, .bool false]) ?_ 1 _ rfl; (with_reducible repeat (first | refine blk_drewN ?_ _ | refine blk_drew ?_ | refine blk_alloc ?_ _)); refine blk_put (cs := #[.bool false, .bool false, .bool true, .bool false]) ?_ 0 _ rfl; (repeat ((with_reducible repeat (first | refine blk_drewN ?_ _ | refine blk_drew ?_ | refine blk_alloc ?_ _)); refine blk_far ?_ NB586_588.out _)); (with_reducible repeat (first | refine blk_drewN ?_ _ | refine blk_drew ?_ | refine blk_alloc ?_ _)); exact BK586.out) hb); replace BK588 := bA (blk_below (g := gb588) (o := .cells #[.int .i64 ((rd_T41 l0 x29_2).f0), .int .i64 ((rd_T41 l0 x29_2).f1)] 41 (0, 0)) (by (repeat ((with_reducible repeat (first | refine blk_drewN ?_ _ | refine blk_drew ?_ | refine blk_alloc ?_ _)); refine blk_far ?_ NB588_586.out _)); (with_reducible repeat (first | refine blk_drewN ?_ _ | refine blk_drew ?_ | refine blk_alloc ?_ _)); refine blk_put (cs := #[.int .i64 ((rd_T41 l0 x29_2).f0), .int .i64 0]) ?_ 1 _ rfl; (with_reducible repeat (first | refine blk_drewN ?_ _ | refine blk_drew ?_ | refine blk_alloc ?_ _)); refine blk_put (cs := #[.int .i64 0, .int .i64 0]) ?_ 0 _ rfl; (with_reducible repeat (first | refine blk_drewN ?_ _ | refine blk_drew ?_ | refine blk_alloc ?_ _)); exact BK588.out) hb); replace HB := bA (bS hb); (try clear hb)))
    go_roundg k2
    case measure => have := HJ1.out; have := HK2.out; omega
    case rel => exact ⟨(wrap64 (x29_2 + 1)), ((((rd_T41 l0 x29_2).f0) == t580)), ((((rd_T41 l0 x29_2).f0) == t582)), (true), ((((rd_T41 l0 x29_2).f1) == t583)), bs, H', ⟨by have := HJ1.out; have := HK2.out; omega⟩, ⟨by (with_reducible repeat (first | refine blk_drewN ?_ _ | refine blk_drew ?_ | refine blk_alloc ?_ _)); exact BK585.out⟩, ⟨by (with_reducible repeat (first | refine blk_drewN ?_ _ | refine blk_drew ?_ | refine blk_alloc ?_ _)); exact BK586.out⟩, ⟨bX⟩⟩
   replace c205 := Bool.eq_false_iff.mpr c205
   subst c205
   rw [if_neg bn] at H
   by_cases c235 : x587003_2 = true
   ·subst c235
    rw [if_pos rfl] at H
    by_cases c236 : ((rd_T41 l0 x29_2).f0) < t580
    ·rw [if_pos c236] at H
     exact absurd H (by simp)
    rw [if_neg c236] at H
    have c236b0 : decide (((rd_T41 l0 x29_2).f0) < t580) = false := decide_eq_false c236
    clear c236
    by_cases c237 : ((rd_T41 l0 x29_2).f0) > t582
    ·rw [if_pos c237] at H
     exact absurd H (by simp)
    rw [if_neg c237] at H
    have c237b0 : decide (t582 < ((rd_T41 l0 x29_2).f0)) = false := decide_eq_false c237
    clear c237
    by_cases c238 : ((rd_T41 l0 x29_2).f1) < t581
    ·rw [if_pos c238] at H
     exact absurd H (by simp)
    rw [if_neg c238] at H
    have c238b0 : decide (((rd_T41 l0 x29_2).f1) < t581) = false := decide_eq_false c238
    clear c238
    by_cases c239 : ((rd_T41 l0 x29_2).f1) > t583
    ·rw [if_pos c239] at H
     exact absurd H (by simp)
    rw [if_neg c239] at H
    have c239b0 : decide (t583 < ((rd_T41 l0 x29_2).f1)) = false := decide_eq_false c239
    clear c239
    replace H := Option.bind_eq_some_iff.mp H
    obtain ⟨t603, A2400, H⟩ := H
    have A240 := bA A2400
    clear A2400
    by_cases c241 : t603 < 0
    ·rw [if_pos c241] at H
     exact absurd H (by simp)
    rw [if_neg c241] at H
    have c241b0 : decide (t603 < 0) = false := decide_eq_false c241
    clear c241
    have H' := bA H
    clear H
    have p587 : 0 ≤ (x29_2 : Int) := bo
    have q587 : x29_2 < (l0.length : Int) := bo
    obtain ⟨ad587, e587, hx587_0, hx587_1⟩ := at_T41 HR0.out x29_2 p587 q587
    cases e587
    replace hx587_0 := bK hx587_0
    replace hx587_1 := bK hx587_1
    replace p587 := eq_true p587
    replace q587 := eq_true q587
    go_wp2_with (first | ((with_reducible refine gate_dst (N := 7) rfl ?_); refine bE (N := 7) (cs := #[.int .i64 0, .int .i64 0]) (t := 41) ?_; intro gb588 hg w242 hbox hb; have BK588 := bA (hbox); have GW588 := bA (bZ hg); have GE588 := bA (bZ hg); have NB585_588 := bA (bL BK585 hg); have NB588_585 := bA (bG BK585 hg); have NB586_588 := bA (bL BK586 hg); have NB588_586 := bA (bG BK586 hg); replace BK585 := bA (bB BK585 hb); replace BK586 := bA (bB BK586 hb); replace HB := bA (bS hb); clear hb hbox hg; have hnb243 := NB588_585.out; have hnc243 := NB585_588.out; have hnb244 := NB588_586.out; have hnc244 := NB586_588.out; obtain ⟨hcz245_0, hcz245_1, hfz245_0, hfz245_1⟩ := bc2 BK588; have hnb246 := NB586_585.out; have hnc246 := NB585_586.out; obtain ⟨hcz247_0, hcz247_1, hcz247_2, hcz247_3, hfz247_0, hfz247_1, hfz247_2, hfz247_3⟩ := bc4 BK586; obtain ⟨hcz248_0, hcz248_1, hcz248_2, hcz248_3, hfz248_0, hfz248_1, hfz248_2, hfz248_3⟩ := bc4 BK585) | (go_at_call 32; (with_reducible refine (poly_Side.calls k2 _ _ l0 ((rd_T41 l0 x29_2).f0) ((rd_T41 l0 x29_2).f1) t603 _ ?side1 ?side2 A240.out).mono ?_); (case side1 => exact Kd.C_below HR0.out bX); (case side2 => exact HC0.out); rintro e w249 ⟨rfl, hb⟩; replace BK585 := bA (blk_below (g := gb585) (o := .cells #[.int .i64 t580, .int .i64 t581, .int .i64 t582, .int .i64 t583] 44 (0, 0)) (by (repeat ((with_reducible repeat (first | refine blk_drewN ?_ _ | refine blk_drew ?_ | refine blk_alloc ?_ _)); refine blk_far ?_ NB585_586.out _)); (repeat ((with_reducible repeat (first | refine blk_drewN ?_ _ | refine blk_drew ?_ | refine blk_alloc ?_ _)); refine blk_far ?_ NB585_588.out _)); (with_reducible repeat (first | refine blk_drewN ?_ _ | refine blk_drew ?_ | refine blk_alloc ?_ _)); exact BK585.out) hb); replace BK586 := bA (blk_below (g := gb586) (o := .cells #[.bool (((rd_T41 l0 x29_2).f0) == t580), .bool (((rd_T41 l0 x29_2).f0) == t582), .bool (((rd_T41 l0 x29_2).f1) == t581), .bool true] 56 (0, 0)) (by (with_reducible repeat (first | refine blk_drewN ?_ _ | refine blk_drew ?_ | refine blk_alloc ?_ _)); refine blk_put (cs := #[.bool (((rd_T41 l0 x29_2).f0) == t580), .bool (((rd_T41 l0 x29_2).f0) == t582), .bool (((rd_T41 l0 x29_2).f1) == t581), .bool true]) ?_ 3 _ rfl; (with_reducible repeat (first | refine blk_drewN ?_ _ | refine blk_drew ?_ | refine blk_alloc ?_ _)); refine blk_put (cs := #[.bool (((rd_T41 l0 x29_2).f0) == t580), .bool (((rd_T41 l0 x29_2).f0) == t582), .bool false, .bool true]) ?_ 2 _ rfl; (with_reducible repeat (first | refine blk_drewN ?_ _ | refine blk_drew ?_ | refine blk_alloc ?_ _)); refine blk_put (cs := #[.bool (((rd_T41 l0 x29_2).f0) == t580), .bool false, .bool false, .bool true]) ?_ 1 _ rfl; (with_reducible repeat (first | refine blk_drewN ?_ _ | refine blk_drew ?_ | refine blk_alloc ?_ _)); refine blk_put (cs := #[.bool false, .bool false, .bool false, .bool true]) ?_ 0 _ rfl; (repeat ((with_reducible repeat (first | refine blk_drewN ?_ _ | refine blk_drew ?_ | refine blk_alloc ?_ _)); refine blk_far ?_ NB586_588.out _)); (with_reducible repeat (first | refine blk_drewN ?_ _ | refine blk_drew ?_ | refine blk_alloc ?_ _)); exact BK586.out) hb); replace BK588 := bA (blk_below (g := gb588) (o := .cells #[.int .i64 ((rd_T41 l0 x29_2).f0), .int .i64 ((rd_T41 l0 x29_2).f1)] 41 (0, 0)) (by (repeat ((with_reducible repeat (first | refine blk_drewN ?_ _ | refine blk_drew ?_ | refine blk_alloc ?_ _)); refine blk_far ?_ NB588_586.out _)); (with_reducible repeat (first | refine blk_drewN ?_ _ | refine blk_drew ?_ | refine blk_alloc ?_ _)); refine blk_put (cs := #[.int .i64 ((rd_T41 l0 x29_2).f0), .int .i64 0]) ?_ 1 _ rfl; (with_reducible repeat (first | refine blk_drewN ?_ _ | refine blk_drew ?_ | refine blk_alloc ?_ _)); refine blk_put (cs := #[.int .i64 0, .int .i64 0]) ?_ 0 _ rfl; (with_reducible repeat (first | refine blk_drewN ?_ _ | refine blk_drew ?_ | refine blk_alloc ?_ _)); exact BK588.out) hb); replace HB := bA (bS hb); (try clear hb)))
    go_roundg k2
    case measure => have := HJ1.out; have := HK2.out; omega
    case rel => exact ⟨(wrap64 (x29_2 + 1)), ((((rd_T41 l0 x29_2).f0) == t580)), ((((rd_T41 l0 x29_2).f0) == t582)), ((((rd_T41 l0 x29_2).f1) == t581)), (true), bs, H', ⟨by have := HJ1.out; have := HK2.out; omega⟩, ⟨by (with_reducible repeat (first | refine blk_drewN ?_ _ | refine blk_drew ?_ | refine blk_alloc ?_ _)); exact BK585.out⟩, ⟨by (with_reducible repeat (first | refine blk_drewN ?_ _ | refine blk_drew ?_ | refine blk_alloc ?_ _)); exact BK586.out⟩, ⟨bX⟩⟩
   replace c235 := Bool.eq_false_iff.mpr c235
   subst c235
   rw [if_neg bn] at H
   by_cases c250 : ((rd_T41 l0 x29_2).f0) < t580
   ·rw [if_pos c250] at H
    exact absurd H (by simp)
   rw [if_neg c250] at H
   have c250b0 : decide (((rd_T41 l0 x29_2).f0) < t580) = false := decide_eq_false c250
   clear c250
   by_cases c251 : ((rd_T41 l0 x29_2).f0) > t582
   ·rw [if_pos c251] at H
    exact absurd H (by simp)
   rw [if_neg c251] at H
   have c251b0 : decide (t582 < ((rd_T41 l0 x29_2).f0)) = false := decide_eq_false c251
   clear c251
   by_cases c252 : ((rd_T41 l0 x29_2).f1) < t581
   ·rw [if_pos c252] at H
    exact absurd H (by simp)
   rw [if_neg c252] at H
   have c252b0 : decide (((rd_T41 l0 x29_2).f1) < t581) = false := decide_eq_false c252
   clear c252
   by_cases c253 : ((rd_T41 l0 x29_2).f1) > t583
   ·rw [if_pos c253] at H
    exact absurd H (by simp)
   rw [if_neg c253] at H
   have c253b0 : decide (t583 < ((rd_T41 l0 x29_2).f1)) = false := decide_eq_false c253
   clear c253
   replace H := Option.bind_eq_some_iff.mp H
   obtain ⟨t604, A2540, H⟩ := H
   have A254 := bA A2540
   clear A2540
   by_cases c255 : t604 < 0
   ·rw [if_pos c255] at H
    exact absurd H (by simp)
   rw [if_neg c255] at H
   have c255b0 : decide (t604 < 0) = false := decide_eq_false c255
   clear c255
   have H' := bA H
   clear H
   have p587 : 0 ≤ (x29_2 : Int) := bo
   have q587 : x29_2 < (l0.length : Int) := bo
   obtain ⟨ad587, e587, hx587_0, hx587_1⟩ := at_T41 HR0.out x29_2 p587 q587
   cases e587
   replace hx587_0 := bK hx587_0
   replace hx587_1 := bK hx587_1
   replace p587 := eq_true p587
   replace q587 := eq_true q587
   go_wp2_with (first | ((with_reducible refine gate_dst (N := 7) rfl ?_); refine bE (N := 7) (cs := #[.int .i64 0, .int .i64 0]) (t := 41) ?_; intro gb588 hg w256 hbox hb; have BK588 := bA (hbox); have GW588 := bA (bZ hg); have GE588 := bA (bZ hg); have NB585_588 := bA (bL BK585 hg); have NB588_585 := bA (bG BK585 hg); have NB586_588 := bA (bL BK586 hg); have NB588_586 := bA (bG BK586 hg); replace BK585 := bA (bB BK585 hb); replace BK586 := bA (bB BK586 hb); replace HB := bA (bS hb); clear hb hbox hg; have hnb257 := NB588_585.out; have hnc257 := NB585_588.out; have hnb258 := NB588_586.out; have hnc258 := NB586_588.out; obtain ⟨hcz259_0, hcz259_1, hfz259_0, hfz259_1⟩ := bc2 BK588; have hnb260 := NB586_585.out; have hnc260 := NB585_586.out; obtain ⟨hcz261_0, hcz261_1, hcz261_2, hcz261_3, hfz261_0, hfz261_1, hfz261_2, hfz261_3⟩ := bc4 BK586; obtain ⟨hcz262_0, hcz262_1, hcz262_2, hcz262_3, hfz262_0, hfz262_1, hfz262_2, hfz262_3⟩ := bc4 BK585) | (go_at_call 32; (with_reducible refine (poly_Side.calls k2 _ _ l0 ((rd_T41 l0 x29_2).f0) ((rd_T41 l0 x29_2).f1) t604 _ ?side1 ?side2 A254.out).mono ?_); (case side1 => exact Kd.C_below HR0.out bX); (case side2 => exact HC0.out); rintro e w263 ⟨rfl, hb⟩; replace BK585 := bA (blk_below (g := gb585) (o := .cells #[.int .i64 t580, .int .i64 t581, .int .i64 t582, .int .i64 t583] 44 (0, 0)) (by (repeat ((with_reducible repeat (first | refine blk_drewN ?_ _ | refine blk_drew ?_ | refine blk_alloc ?_ _)); refine blk_far ?_ NB585_586.out _)); (repeat ((with_reducible repeat (first | refine blk_drewN ?_ _ | refine blk_drew ?_ | refine blk_alloc ?_ _)); refine blk_far ?_ NB585_588.out _)); (with_reducible repeat (first | refine blk_drewN ?_ _ | refine blk_drew ?_ | refine blk_alloc ?_ _)); exact BK585.out) hb); replace BK586 := bA (blk_below (g := gb586) (o := .cells #[.bool (((rd_T41 l0 x29_2).f0) == t580), .bool (((rd_T41 l0 x29_2).f0) == t582), .bool (((rd_T41 l0 x29_2).f1) == t581), .bool (((rd_T41 l0 x29_2).f1) == t583)] 56 (0, 0)) (by (with_reducible repeat (first | refine blk_drewN ?_ _ | refine blk_drew ?_ | refine blk_alloc ?_ _)); refine blk_put (cs := #[.bool (((rd_T41 l0 x29_2).f0) == t580), .bool (((rd_T41 l0 x29_2).f0) == t582), .bool (((rd_T41 l0 x29_2).f1) == t581), .bool false]) ?_ 3 _ rfl; (with_reducible repeat (first | refine blk_drewN ?_ _ | refine blk_drew ?_ | refine blk_alloc ?_ _)); refine blk_put (cs := #[.bool (((rd_T41 l0 x29_2).f0) == t580), .bool (((rd_T41 l0 x29_2).f0) == t582), .bool false, .bool false]) ?_ 2 _ rfl; (with_reducible repeat (first | refine blk_drewN ?_ _ | refine blk_drew ?_ | refine blk_alloc ?_ _)); refine blk_put (cs := #[.bool (((rd_T41 l0 x29_2).f0) == t580), .bool false, .bool false, .bool false]) ?_ 1 _ rfl; (with_reducible repeat (first | refine blk_drewN ?_ _ | refine blk_drew ?_ | refine blk_alloc ?_ _)); refine blk_put (cs := #[.bool false, .bool false, .bool false, .bool false]) ?_ 0 _ rfl; (repeat ((with_reducible repeat (first | refine blk_drewN ?_ _ | refine blk_drew ?_ | refine blk_alloc ?_ _)); refine blk_far ?_ NB586_588.out _)); (with_reducible repeat (first | refine blk_drewN ?_ _ | refine blk_drew ?_ | refine blk_alloc ?_ _)); exact BK586.out) hb); replace BK588 := bA (blk_below (g := gb588) (o := .cells #[.int .i64 ((rd_T41 l0 x29_2).f0), .int .i64 ((rd_T41 l0 x29_2).f1)] 41 (0, 0)) (by (repeat ((with_reducible repeat (first | refine blk_drewN ?_ _ | refine blk_drew ?_ | refine blk_alloc ?_ _)); refine blk_far ?_ NB588_586.out _)); (with_reducible repeat (first | refine blk_drewN ?_ _ | refine blk_drew ?_ | refine blk_alloc ?_ _)); refine blk_put (cs := #[.int .i64 ((rd_T41 l0 x29_2).f0), .int .i64 0]) ?_ 1 _ rfl; (with_reducible repeat (first | refine blk_drewN ?_ _ | refine blk_drew ?_ | refine blk_alloc ?_ _)); refine blk_put (cs := #[.int .i64 0, .int .i64 0]) ?_ 0 _ rfl; (with_reducible repeat (first | refine blk_drewN ?_ _ | refine blk_drew ?_ | refine blk_alloc ?_ _)); exact BK588.out) hb); replace HB := bA (bS hb); (try clear hb)))
   go_roundg k2
   case measure => have := HJ1.out; have := HK2.out; omega
   case rel => exact ⟨(wrap64 (x29_2 + 1)), ((((rd_T41 l0 x29_2).f0) == t580)), ((((rd_T41 l0 x29_2).f0) == t582)), ((((rd_T41 l0 x29_2).f1) == t581)), ((((rd_T41 l0 x29_2).f1) == t583)), bs, H', ⟨by have := HJ1.out; have := HK2.out; omega⟩, ⟨by (with_reducible repeat (first | refine blk_drewN ?_ _ | refine blk_drew ?_ | refine blk_alloc ?_ _)); exact BK585.out⟩, ⟨by (with_reducible repeat (first | refine blk_drewN ?_ _ | refine blk_drew ?_ | refine blk_alloc ?_ _)); exact BK586.out⟩, ⟨bX⟩⟩

end Go.Proofs.Ytjmibjmlihmglaa.G
