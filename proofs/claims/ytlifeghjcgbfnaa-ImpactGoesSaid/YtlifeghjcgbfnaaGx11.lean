-- Written by a program of this session out of the translation; Lean checks it.
import Derived.Test.YtlifeghjcgbfnaaGx0
import Derived.Test.YtlifeghjcgbfnaaGx1
import Derived.Test.YtlifeghjcgbfnaaGx7
import Derived.Test.YtlifeghjcgbfnaaGx8
import Derived.Test.YtlifeghjcgbfnaaGx9
import Derived.Test.YtlifeghjcgbfnaaGx10
namespace Go.Proofs.Ytlifeghjcgbfnaa.G
open Go.RowKit Go.Proofs.YtlifeghjcgbfnaaW.PrintWords Go.Proofs.YtlifeghjcgbfnaaW.PrintLast Go.Proofs.YtlifeghjcgbfnaaW.PrintMore
attribute [local go_sem] max2_int min2_int max_two min_two max_three min_three max_four min_four   -- for this text's walks alone
set_option linter.unusedVariables false
set_option linter.unusedSimpArgs false

attribute [local go_sem high] eqA31
/-! ### point_Same: function 37 -/
def point_Same.f (k : Nat) (l0 : List (S31)) (l1 : List (S31)) : Option (Bool) := (slices_Equal_Point.f k l0 l1).bind fun t269 => (some t269)
theorem point_Same.mono : ∀ a0 a1 k, LeO (point_Same.f k a0 a1) (point_Same.f (k + 1) a0 a1) := by
 intro a0 a1 k
 unfold point_Same.f
 repeat' first
   | (with_reducible exact slices_Equal_Point.mono _ _ _)
   | (with_reducible exact LeO.refl _)
   | (with_reducible exact LeO.none _)
   | (with_reducible refine LeO.ite ?_ ?_)
   | (with_reducible refine LeO.bind ?_ (fun _ => ?_))
   | exact slices_Equal_Point.mono _ _ _
   | exact LeO.none _
   | refine LeO.ite ?_ ?_
   | refine LeO.bind ?_ (fun _ => ?_)
set_option maxHeartbeats 8000000 in
set_option maxRecDepth 100000 in
theorem point_Same.calls (k : Nat) (A0 : Option Addr) (c0 : Nat) (l0 : List (S31)) (A1 : Option Addr) (c1 : Nat) (l1 : List (S31)) (r : Bool) (w : World) (hr0 : Kd.C k31 w A0 l0.length l0) (hc0 : l0.length ≤ c0) (hr1 : Kd.C k31 w A1 l1.length l1) (hc1 : l1.length ≤ c1) (h : point_Same.f k l0 l1 = some r) :
  Calls Try.prog 37 #[.slice A0 l0.length c0, .slice A1 l1.length c1] w fun e w' => e = .returned (.bool r) ∧ Drawn0 w w' := by
 have HR0 := bA hr0
 have HC0 := bA hc0
 clear hr0 hc0
 have HR1 := bA hr1
 have HC1 := bA hc1
 clear hr1 hc1
 have H : ((slices_Equal_Point.f k l0 l1).bind fun t269 => (some t269)) = some r := h
 clear h
 replace H := Option.bind_eq_some_iff.mp H
 obtain ⟨t269, A30, H⟩ := H
 replace H : (some t269) = some r := H
 have A3 := bA A30
 clear A30
 obtain rfl := Option.some.inj H
 go_enter Try.func37, Try.ntmps37
 go_wp2_with (first | ((first | ((with_reducible refine gate_callee (f := 55) rfl ?_); refine bC (some 7) Try.func55 #[.slice A0 l0.length c0, .slice A1 l1.length c1] ?_) | go_at_call 55); (with_reducible refine (slices_Equal_Point.calls k _ _ l0 _ _ l1 t269 _ ?side1 ?side2 ?side3 ?side4 A3.out).mono ?_); (case side1 => repeat (first | exact HR0.out | (with_reducible refine Kd.C_alloc ?_ _) | (with_reducible refine Kd.C_drewN ?_ _) | (with_reducible refine Kd.C_drew ?_))); (case side2 => exact HC0.out); (case side3 => repeat (first | exact HR1.out | (with_reducible refine Kd.C_alloc ?_ _) | (with_reducible refine Kd.C_drewN ?_ _) | (with_reducible refine Kd.C_drew ?_))); (case side4 => exact HC1.out); rintro e w' ⟨rfl, ⟨nd, rfl⟩⟩; (first | refine ⟨_, rfl, ?_⟩ | skip)))
 go_ret
 exact bD
/-! ### apogeelaw10_awake: function 15 -/
def apogeelaw10_awake.f (k : Nat)  : Option (Bool) := (point_Move.f k 2 0 1 (-1)).bind fun bt273 => ((point_Move.f k 2 0 1099511627776 0).bind fun bt277 => ((point_Turn.f k 0 0 2 0 2 2).bind fun t281 => (if t281 = 1 then ((point_Turn.f k 2 2 2 0 0 0).bind fun t282 => (if t282 = (-1) then ((point_On.f k 1 1 0 0 2 2).bind fun t283 => (if t283 = true then ((point_On.f k 2 0 0 0 2 2).bind fun t284 => (if t284 = true then (none) else ((point_Meet.f k 0 0 2 2 2 0 0 2).bind fun t285 => (if t285 = true then ((point_Meet.f k 0 0 1 0 2 0 2 2).bind fun t286 => (if t286 = true then (none) else ((point_Right.f 2 2).bind fun t287 => (if t287 = true then ((point_Right.f 1099511627777 0).bind fun t288 => (if t288 = true then (none) else (if (bt273.1 == 3 && (bt273.2.1 == (-1))) = true then (if bt273.2.2 = true then (if bt277.2.2 = true then (none) else ((point_Same.f k ([] : List (S31)) (([] : List (S31)))).bind fun t292 => (some t292))) else (none)) else (none)))) else (none))))) else (none))))) else (none))) else (none))) else (none))))
theorem apogeelaw10_awake.mono : ∀ k, LeO (apogeelaw10_awake.f k ) (apogeelaw10_awake.f (k + 1) ) := by
 intro  k
 unfold apogeelaw10_awake.f
 repeat' first
   | (with_reducible exact point_Meet.mono _ _ _ _ _ _ _ _ _)
   | (with_reducible exact point_Move.mono _ _ _ _ _)
   | (with_reducible exact point_On.mono _ _ _ _ _ _ _)
   | (with_reducible exact point_Same.mono _ _ _)
   | (with_reducible exact point_Turn.mono _ _ _ _ _ _ _)
   | (with_reducible exact LeO.refl _)
   | (with_reducible exact LeO.none _)
   | (with_reducible refine LeO.ite ?_ ?_)
   | (with_reducible refine LeO.bind ?_ (fun _ => ?_))
   | exact point_Meet.mono _ _ _ _ _ _ _ _ _
   | exact point_Move.mono _ _ _ _ _
   | exact point_On.mono _ _ _ _ _ _ _
   | exact point_Same.mono _ _ _
   | exact point_Turn.mono _ _ _ _ _ _ _
   | exact LeO.none _
   | refine LeO.ite ?_ ?_
   | refine LeO.bind ?_ (fun _ => ?_)
set_option maxHeartbeats 8000000 in
set_option maxRecDepth 100000 in
theorem apogeelaw10_awake.calls (k : Nat)  (r : Bool) (w : World) (h : apogeelaw10_awake.f k  = some r) :
  Calls Try.prog 15 #[] w fun e w' => e = .returned (.bool r) ∧ Below w.heap.size w w' := by
 have hu31 := Try.underlying31
 have HB := bA (Below.refl w.heap.size w)
 have H : ((point_Move.f k 2 0 1 (-1)).bind fun bt273 => ((point_Move.f k 2 0 1099511627776 0).bind fun bt277 => ((point_Turn.f k 0 0 2 0 2 2).bind fun t281 => (if t281 = 1 then ((point_Turn.f k 2 2 2 0 0 0).bind fun t282 => (if t282 = (-1) then ((point_On.f k 1 1 0 0 2 2).bind fun t283 => (if t283 = true then ((point_On.f k 2 0 0 0 2 2).bind fun t284 => (if t284 = true then (none) else ((point_Meet.f k 0 0 2 2 2 0 0 2).bind fun t285 => (if t285 = true then ((point_Meet.f k 0 0 1 0 2 0 2 2).bind fun t286 => (if t286 = true then (none) else ((point_Right.f 2 2).bind fun t287 => (if t287 = true then ((point_Right.f 1099511627777 0).bind fun t288 => (if t288 = true then (none) else (if (bt273.1 == 3 && (bt273.2.1 == (-1))) = true then (if bt273.2.2 = true then (if bt277.2.2 = true then (none) else ((point_Same.f k ([] : List (S31)) (([] : List (S31)))).bind fun t292 => (some t292))) else (none)) else (none)))) else (none))))) else (none))))) else (none))) else (none))) else (none))))) = some r := h
 clear h
 replace H := Option.bind_eq_some_iff.mp H
 obtain ⟨⟨t273, t274, t275⟩, A10, H⟩ := H
 replace H : ((point_Move.f k 2 0 1099511627776 0).bind fun bt277 => ((point_Turn.f k 0 0 2 0 2 2).bind fun t281 => (if t281 = 1 then ((point_Turn.f k 2 2 2 0 0 0).bind fun t282 => (if t282 = (-1) then ((point_On.f k 1 1 0 0 2 2).bind fun t283 => (if t283 = true then ((point_On.f k 2 0 0 0 2 2).bind fun t284 => (if t284 = true then (none) else ((point_Meet.f k 0 0 2 2 2 0 0 2).bind fun t285 => (if t285 = true then ((point_Meet.f k 0 0 1 0 2 0 2 2).bind fun t286 => (if t286 = true then (none) else ((point_Right.f 2 2).bind fun t287 => (if t287 = true then ((point_Right.f 1099511627777 0).bind fun t288 => (if t288 = true then (none) else (if (t273 == 3 && (t274 == (-1))) = true then (if t275 = true then (if bt277.2.2 = true then (none) else ((point_Same.f k ([] : List (S31)) (([] : List (S31)))).bind fun t292 => (some t292))) else (none)) else (none)))) else (none))))) else (none))))) else (none))) else (none))) else (none)))) = some r := H
 have A1 := bA A10
 clear A10
 replace H := Option.bind_eq_some_iff.mp H
 obtain ⟨⟨t277, t278, t279⟩, A20, H⟩ := H
 replace H : ((point_Turn.f k 0 0 2 0 2 2).bind fun t281 => (if t281 = 1 then ((point_Turn.f k 2 2 2 0 0 0).bind fun t282 => (if t282 = (-1) then ((point_On.f k 1 1 0 0 2 2).bind fun t283 => (if t283 = true then ((point_On.f k 2 0 0 0 2 2).bind fun t284 => (if t284 = true then (none) else ((point_Meet.f k 0 0 2 2 2 0 0 2).bind fun t285 => (if t285 = true then ((point_Meet.f k 0 0 1 0 2 0 2 2).bind fun t286 => (if t286 = true then (none) else ((point_Right.f 2 2).bind fun t287 => (if t287 = true then ((point_Right.f 1099511627777 0).bind fun t288 => (if t288 = true then (none) else (if (t273 == 3 && (t274 == (-1))) = true then (if t275 = true then (if t279 = true then (none) else ((point_Same.f k ([] : List (S31)) (([] : List (S31)))).bind fun t292 => (some t292))) else (none)) else (none)))) else (none))))) else (none))))) else (none))) else (none))) else (none))) = some r := H
 have A2 := bA A20
 clear A20
 replace H := Option.bind_eq_some_iff.mp H
 obtain ⟨t281, A30, H⟩ := H
 replace H : (if t281 = 1 then ((point_Turn.f k 2 2 2 0 0 0).bind fun t282 => (if t282 = (-1) then ((point_On.f k 1 1 0 0 2 2).bind fun t283 => (if t283 = true then ((point_On.f k 2 0 0 0 2 2).bind fun t284 => (if t284 = true then (none) else ((point_Meet.f k 0 0 2 2 2 0 0 2).bind fun t285 => (if t285 = true then ((point_Meet.f k 0 0 1 0 2 0 2 2).bind fun t286 => (if t286 = true then (none) else ((point_Right.f 2 2).bind fun t287 => (if t287 = true then ((point_Right.f 1099511627777 0).bind fun t288 => (if t288 = true then (none) else (if (t273 == 3 && (t274 == (-1))) = true then (if t275 = true then (if t279 = true then (none) else ((point_Same.f k ([] : List (S31)) (([] : List (S31)))).bind fun t292 => (some t292))) else (none)) else (none)))) else (none))))) else (none))))) else (none))) else (none))) else (none)) = some r := H
 have A3 := bA A30
 clear A30
 by_cases c4 : t281 = 1
 ·rw [if_pos c4] at H
  have c4b0 : (t281 == 1) = true := beq_iff_eq.mpr c4
  have c4b1 : (t281 != 1) = false := bne_eq_false_iff_eq.mpr c4
  clear c4
  replace H := Option.bind_eq_some_iff.mp H
  obtain ⟨t282, A50, H⟩ := H
  replace H : (if t282 = (-1) then ((point_On.f k 1 1 0 0 2 2).bind fun t283 => (if t283 = true then ((point_On.f k 2 0 0 0 2 2).bind fun t284 => (if t284 = true then (none) else ((point_Meet.f k 0 0 2 2 2 0 0 2).bind fun t285 => (if t285 = true then ((point_Meet.f k 0 0 1 0 2 0 2 2).bind fun t286 => (if t286 = true then (none) else ((point_Right.f 2 2).bind fun t287 => (if t287 = true then ((point_Right.f 1099511627777 0).bind fun t288 => (if t288 = true then (none) else (if (t273 == 3 && (t274 == (-1))) = true then (if t275 = true then (if t279 = true then (none) else ((point_Same.f k ([] : List (S31)) (([] : List (S31)))).bind fun t292 => (some t292))) else (none)) else (none)))) else (none))))) else (none))))) else (none))) else (none)) = some r := H
  have A5 := bA A50
  clear A50
  by_cases c6 : t282 = (-1)
  ·rw [if_pos c6] at H
   have c6b0 : (t282 == (-1)) = true := beq_iff_eq.mpr c6
   have c6b1 : (t282 != (-1)) = false := bne_eq_false_iff_eq.mpr c6
   clear c6
   replace H := Option.bind_eq_some_iff.mp H
   obtain ⟨t283, A70, H⟩ := H
   replace H : (if t283 = true then ((point_On.f k 2 0 0 0 2 2).bind fun t284 => (if t284 = true then (none) else ((point_Meet.f k 0 0 2 2 2 0 0 2).bind fun t285 => (if t285 = true then ((point_Meet.f k 0 0 1 0 2 0 2 2).bind fun t286 => (if t286 = true then (none) else ((point_Right.f 2 2).bind fun t287 => (if t287 = true then ((point_Right.f 1099511627777 0).bind fun t288 => (if t288 = true then (none) else (if (t273 == 3 && (t274 == (-1))) = true then (if t275 = true then (if t279 = true then (none) else ((point_Same.f k ([] : List (S31)) (([] : List (S31)))).bind fun t292 => (some t292))) else (none)) else (none)))) else (none))))) else (none))))) else (none)) = some r := H
   have A7 := bA A70
   clear A70
   by_cases c8 : t283 = true
   ·subst c8
    rw [if_pos rfl] at H
    replace H := Option.bind_eq_some_iff.mp H
    obtain ⟨t284, A90, H⟩ := H
    replace H : (if t284 = true then (none) else ((point_Meet.f k 0 0 2 2 2 0 0 2).bind fun t285 => (if t285 = true then ((point_Meet.f k 0 0 1 0 2 0 2 2).bind fun t286 => (if t286 = true then (none) else ((point_Right.f 2 2).bind fun t287 => (if t287 = true then ((point_Right.f 1099511627777 0).bind fun t288 => (if t288 = true then (none) else (if (t273 == 3 && (t274 == (-1))) = true then (if t275 = true then (if t279 = true then (none) else ((point_Same.f k ([] : List (S31)) (([] : List (S31)))).bind fun t292 => (some t292))) else (none)) else (none)))) else (none))))) else (none)))) = some r := H
    have A9 := bA A90
    clear A90
    by_cases c10 : t284 = true
    ·subst c10
     rw [if_pos rfl] at H
     exact absurd H (by simp)
    ·replace c10 := Bool.eq_false_iff.mpr c10
     subst c10
     rw [if_neg (show ¬ (false = true) by decide)] at H
     replace H := Option.bind_eq_some_iff.mp H
     obtain ⟨t285, A110, H⟩ := H
     replace H : (if t285 = true then ((point_Meet.f k 0 0 1 0 2 0 2 2).bind fun t286 => (if t286 = true then (none) else ((point_Right.f 2 2).bind fun t287 => (if t287 = true then ((point_Right.f 1099511627777 0).bind fun t288 => (if t288 = true then (none) else (if (t273 == 3 && (t274 == (-1))) = true then (if t275 = true then (if t279 = true then (none) else ((point_Same.f k ([] : List (S31)) (([] : List (S31)))).bind fun t292 => (some t292))) else (none)) else (none)))) else (none))))) else (none)) = some r := H
     have A11 := bA A110
     clear A110
     by_cases c12 : t285 = true
     ·subst c12
      rw [if_pos rfl] at H
      replace H := Option.bind_eq_some_iff.mp H
      obtain ⟨t286, A130, H⟩ := H
      replace H : (if t286 = true then (none) else ((point_Right.f 2 2).bind fun t287 => (if t287 = true then ((point_Right.f 1099511627777 0).bind fun t288 => (if t288 = true then (none) else (if (t273 == 3 && (t274 == (-1))) = true then (if t275 = true then (if t279 = true then (none) else ((point_Same.f k ([] : List (S31)) (([] : List (S31)))).bind fun t292 => (some t292))) else (none)) else (none)))) else (none)))) = some r := H
      have A13 := bA A130
      clear A130
      by_cases c14 : t286 = true
      ·subst c14
       rw [if_pos rfl] at H
       exact absurd H (by simp)
      ·replace c14 := Bool.eq_false_iff.mpr c14
       subst c14
       rw [if_neg (show ¬ (false = true) by decide)] at H
       replace H := Option.bind_eq_some_iff.mp H
       obtain ⟨t287, A150, H⟩ := H
       replace H : (if t287 = true then ((point_Right.f 1099511627777 0).bind fun t288 => (if t288 = true then (none) else (if (t273 == 3 && (t274 == (-1))) = true then (if t275 = true then (if t279 = true then (none) else ((point_Same.f k ([] : List (S31)) (([] : List (S31)))).bind fun t292 => (some t292))) else (none)) else (none)))) else (none)) = some r := H
       have A15 := bA A150
       clear A150
       by_cases c16 : t287 = true
       ·subst c16
        rw [if_pos rfl] at H
        replace H := Option.bind_eq_some_iff.mp H
        obtain ⟨t288, A170, H⟩ := H
        replace H : (if t288 = true then (none) else (if (t273 == 3 && (t274 == (-1))) = true then (if t275 = true then (if t279 = true then (none) else ((point_Same.f k ([] : List (S31)) (([] : List (S31)))).bind fun t292 => (some t292))) else (none)) else (none))) = some r := H
        have A17 := bA A170
        clear A170
        by_cases c18 : t288 = true
        ·subst c18
         rw [if_pos rfl] at H
         exact absurd H (by simp)
        ·replace c18 := Bool.eq_false_iff.mpr c18
         subst c18
         rw [if_neg (show ¬ (false = true) by decide)] at H
         by_cases c19 : (t273 == 3 && (t274 == (-1))) = true
         ·rw [if_pos c19] at H
          have c19b0 : (t273 == 3 && (t274 == (-1))) = true := c19
          (try (have c19b1 : decide (t273 = 3 && (t274 == (-1))) = true := by simpa using c19))
          (try (have c19b2 : (t273 == 3 && (t274 == (-1))) = true := by simpa using c19))
          clear c19
          by_cases c20 : t275 = true
          ·subst c20
           rw [if_pos rfl] at H
           by_cases c21 : t279 = true
           ·subst c21
            rw [if_pos rfl] at H
            exact absurd H (by simp)
           ·replace c21 := Bool.eq_false_iff.mpr c21
            subst c21
            rw [if_neg (show ¬ (false = true) by decide)] at H
            obtain ⟨y289, hy289⟩ : ∃ y_ : List (S31), y_ = (([] : List (S31))) := ⟨_, rfl⟩
            replace H : ((point_Same.f k ([] : List (S31)) y289).bind fun t292 => (some t292)) = some r := by first | (rw [hy289]; with_reducible exact H) | (have H2_ := (Option.bind_some _ _).symm.trans H; rw [hy289]; with_reducible exact H2_) | (have H2_ := (Option.bind_some _ _).symm.trans H; with_reducible exact H2_) | with_reducible exact H | (rw [hy289]; exact H) | exact H
            have Ny289 := bA hy289
            clear hy289
            replace H := Option.bind_eq_some_iff.mp H
            obtain ⟨t292, A220, H⟩ := H
            replace H : (some t292) = some r := H
            have A22 := bA A220
            clear A220
            obtain rfl := Option.some.inj H
            go_enter Try.func15, Try.ntmps15
            go_wp2_with (first | ((with_reducible refine gate_dst (N := 1) rfl ?_); (try (refine gate_guard (by rfl) ?_; dsimp only)); refine bE (N := 1) (cs := #[.int .i64 0, .int .i64 0]) (t := 31) ?_; intro gb270 hg w23 hbox hb; have n0_ := bA (bS hb); have n1_ := bA (hbox); have n2_ := bA ((bZ hg : w.heap.size ≤ gb270)); have n3_ := bA ((bZ hg : w.heap.size ≤ gb270)); clear HB; have HB := n0_; have BK270 := n1_; have GW270 := n2_; have GE270 := n3_; clear n0_ n1_ n2_ n3_; clear hb hbox hg) | ((with_reducible refine gate_dst (N := 2) rfl ?_); (try (refine gate_guard (by rfl) ?_; dsimp only)); refine bE (N := 2) (cs := #[.int .i64 0, .int .i64 0]) (t := 31) ?_; intro gb271 hg w24 hbox hb; have n0_ := bA (bB BK270 hb); have n1_ := bA (bS hb); have n2_ := bA (hbox); have n3_ := bA ((bZ hg : w.heap.size ≤ gb271)); have n4_ := bA ((bZ hg : w.heap.size ≤ gb271)); have n5_ := bA ((bL BK270 hg : gb270 ≠ gb271)); have n6_ := bA ((bG BK270 hg : gb271 ≠ gb270)); clear BK270; clear HB; have BK270 := n0_; have HB := n1_; have BK271 := n2_; have GW271 := n3_; have GE271 := n4_; have NB270_271 := n5_; have NB271_270 := n6_; clear n0_ n1_ n2_ n3_ n4_ n5_ n6_; clear hb hbox hg) | ((with_reducible refine gate_dst (N := 3) rfl ?_); (try (refine gate_guard (by rfl) ?_; dsimp only)); refine bE (N := 3) (cs := #[.int .i64 0, .int .i64 0]) (t := 31) ?_; intro gb272 hg w25 hbox hb; have n0_ := bA (bB BK270 hb); have n1_ := bA (bB BK271 hb); have n2_ := bA (bS hb); have n3_ := bA (hbox); have n4_ := bA ((bZ hg : w.heap.size ≤ gb272)); have n5_ := bA ((bZ hg : w.heap.size ≤ gb272)); have n6_ := bA ((bL BK270 hg : gb270 ≠ gb272)); have n7_ := bA ((bG BK270 hg : gb272 ≠ gb270)); have n8_ := bA ((bL BK271 hg : gb271 ≠ gb272)); have n9_ := bA ((bG BK271 hg : gb272 ≠ gb271)); clear BK270; clear BK271; clear HB; have BK270 := n0_; have BK271 := n1_; have HB := n2_; have BK272 := n3_; have GW272 := n4_; have GE272 := n5_; have NB270_272 := n6_; have NB272_270 := n7_; have NB271_272 := n8_; have NB272_271 := n9_; clear n0_ n1_ n2_ n3_ n4_ n5_ n6_ n7_ n8_ n9_; clear hb hbox hg; have hnb26 := NB270_271.out; have hnc26 := NB271_270.out; have hnb27 := NB270_272.out; have hnc27 := NB272_270.out; have hcz28_0 : w25.cell? ⟨gb270, 0, none⟩ = some (.int .i64 0) := (blk_cell BK270.out 0).trans rfl; have hcz28_1 : w25.cell? ⟨gb270, 1, none⟩ = some (.int .i64 0) := (blk_cell BK270.out 1).trans rfl; have hfz28_0 := blk_frozen BK270.out 0; have hfz28_1 := blk_frozen BK270.out 1; have hnb29 := NB271_272.out; have hnc29 := NB272_271.out; have hcz30_0 : w25.cell? ⟨gb271, 0, none⟩ = some (.int .i64 0) := (blk_cell BK271.out 0).trans rfl; have hcz30_1 : w25.cell? ⟨gb271, 1, none⟩ = some (.int .i64 0) := (blk_cell BK271.out 1).trans rfl; have hfz30_0 := blk_frozen BK271.out 0; have hfz30_1 := blk_frozen BK271.out 1; have hcz31_0 : w25.cell? ⟨gb272, 0, none⟩ = some (.int .i64 0) := (blk_cell BK272.out 0).trans rfl; have hcz31_1 : w25.cell? ⟨gb272, 1, none⟩ = some (.int .i64 0) := (blk_cell BK272.out 1).trans rfl; have hfz31_0 := blk_frozen BK272.out 0; have hfz31_1 := blk_frozen BK272.out 1) | ((first | ((with_reducible refine gate_callee (f := 36) rfl ?_); refine bC (some 13) Try.func36 #[.agg #[.int .i64 2, .int .i64 0], .int .i64 1, .int .i64 (-1)] ?_) | go_at_call 36); (with_reducible refine (point_Move.calls k 2 0 1 (-1) t273 t274 true _ A1.out).mono ?_); rintro e w32 ⟨rfl, hb⟩; (first | refine ⟨_, rfl, ?_⟩ | skip); have n0_ := bA (blk_below (g := gb270) (o := .cells #[.int .i64 0, .int .i64 0] 31 (0, 0)) (by (with_reducible repeat (first | refine blk_drewN ?_ _ | refine blk_drew ?_ | refine blk_alloc ?_ _)); refine blk_far ?_ NB270_272.out _; (with_reducible repeat (first | refine blk_drewN ?_ _ | refine blk_drew ?_ | refine blk_alloc ?_ _)); refine blk_far ?_ NB270_272.out _; (with_reducible repeat (first | refine blk_drewN ?_ _ | refine blk_drew ?_ | refine blk_alloc ?_ _)); refine blk_far ?_ NB270_271.out _; (with_reducible repeat (first | refine blk_drewN ?_ _ | refine blk_drew ?_ | refine blk_alloc ?_ _)); refine blk_far ?_ NB270_271.out _; (with_reducible repeat (first | refine blk_drewN ?_ _ | refine blk_drew ?_ | refine blk_alloc ?_ _)); refine blk_put (cs := #[.int .i64 0, .int .i64 0]) ?_ 1 _ rfl; (with_reducible repeat (first | refine blk_drewN ?_ _ | refine blk_drew ?_ | refine blk_alloc ?_ _)); refine blk_put (cs := #[.int .i64 0, .int .i64 0]) ?_ 0 _ rfl; (with_reducible repeat (first | refine blk_drewN ?_ _ | refine blk_drew ?_ | refine blk_alloc ?_ _)); exact BK270.out) hb); have n1_ := bA (blk_below (g := gb271) (o := .cells #[.int .i64 2, .int .i64 0] 31 (0, 0)) (by (with_reducible repeat (first | refine blk_drewN ?_ _ | refine blk_drew ?_ | refine blk_alloc ?_ _)); refine blk_far ?_ NB271_272.out _; (with_reducible repeat (first | refine blk_drewN ?_ _ | refine blk_drew ?_ | refine blk_alloc ?_ _)); refine blk_far ?_ NB271_272.out _; (with_reducible repeat (first | refine blk_drewN ?_ _ | refine blk_drew ?_ | refine blk_alloc ?_ _)); refine blk_put (cs := #[.int .i64 2, .int .i64 0]) ?_ 1 _ rfl; (with_reducible repeat (first | refine blk_drewN ?_ _ | refine blk_drew ?_ | refine blk_alloc ?_ _)); refine blk_put (cs := #[.int .i64 0, .int .i64 0]) ?_ 0 _ rfl; (with_reducible repeat (first | refine blk_drewN ?_ _ | refine blk_drew ?_ | refine blk_alloc ?_ _)); refine blk_far ?_ NB271_270.out _; (with_reducible repeat (first | refine blk_drewN ?_ _ | refine blk_drew ?_ | refine blk_alloc ?_ _)); refine blk_far ?_ NB271_270.out _; (with_reducible repeat (first | refine blk_drewN ?_ _ | refine blk_drew ?_ | refine blk_alloc ?_ _)); exact BK271.out) hb); have n2_ := bA (blk_below (g := gb272) (o := .cells #[.int .i64 2, .int .i64 2] 31 (0, 0)) (by (with_reducible repeat (first | refine blk_drewN ?_ _ | refine blk_drew ?_ | refine blk_alloc ?_ _)); refine blk_put (cs := #[.int .i64 2, .int .i64 0]) ?_ 1 _ rfl; (with_reducible repeat (first | refine blk_drewN ?_ _ | refine blk_drew ?_ | refine blk_alloc ?_ _)); refine blk_put (cs := #[.int .i64 0, .int .i64 0]) ?_ 0 _ rfl; (with_reducible repeat (first | refine blk_drewN ?_ _ | refine blk_drew ?_ | refine blk_alloc ?_ _)); refine blk_far ?_ NB272_271.out _; (with_reducible repeat (first | refine blk_drewN ?_ _ | refine blk_drew ?_ | refine blk_alloc ?_ _)); refine blk_far ?_ NB272_271.out _; (with_reducible repeat (first | refine blk_drewN ?_ _ | refine blk_drew ?_ | refine blk_alloc ?_ _)); refine blk_far ?_ NB272_270.out _; (with_reducible repeat (first | refine blk_drewN ?_ _ | refine blk_drew ?_ | refine blk_alloc ?_ _)); refine blk_far ?_ NB272_270.out _; (with_reducible repeat (first | refine blk_drewN ?_ _ | refine blk_drew ?_ | refine blk_alloc ?_ _)); exact BK272.out) hb); have n3_ := bA (bS hb); clear BK270; clear BK271; clear BK272; clear HB; have BK270 := n0_; have BK271 := n1_; have BK272 := n2_; have HB := n3_; clear n0_ n1_ n2_ n3_; (try clear hb); (try clear hb2); (try clear hk); (try clear hi)) | ((with_reducible refine gate_dst (N := 4) rfl ?_); (try (refine gate_guard (by rfl) ?_; dsimp only)); refine bE (N := 4) (cs := #[.int .i64 0, .int .i64 0]) (t := 31) ?_; intro gb276 hg w33 hbox hb; have n0_ := bA (bB BK270 hb); have n1_ := bA (bB BK271 hb); have n2_ := bA (bB BK272 hb); have n3_ := bA (bS hb); have n4_ := bA (hbox); have n5_ := bA ((bZ hg : w.heap.size ≤ gb276)); have n6_ := bA ((bZ hg : w.heap.size ≤ gb276)); have n7_ := bA ((bL BK270 hg : gb270 ≠ gb276)); have n8_ := bA ((bG BK270 hg : gb276 ≠ gb270)); have n9_ := bA ((bL BK271 hg : gb271 ≠ gb276)); have n10_ := bA ((bG BK271 hg : gb276 ≠ gb271)); have n11_ := bA ((bL BK272 hg : gb272 ≠ gb276)); have n12_ := bA ((bG BK272 hg : gb276 ≠ gb272)); clear BK270; clear BK271; clear BK272; clear HB; have BK270 := n0_; have BK271 := n1_; have BK272 := n2_; have HB := n3_; have BK276 := n4_; have GW276 := n5_; have GE276 := n6_; have NB270_276 := n7_; have NB276_270 := n8_; have NB271_276 := n9_; have NB276_271 := n10_; have NB272_276 := n11_; have NB276_272 := n12_; clear n0_ n1_ n2_ n3_ n4_ n5_ n6_ n7_ n8_ n9_ n10_ n11_ n12_; clear hb hbox hg; have hnb34 := NB276_270.out; have hnc34 := NB270_276.out; have hnb35 := NB276_271.out; have hnc35 := NB271_276.out; have hnb36 := NB276_272.out; have hnc36 := NB272_276.out; have hcz37_0 : w33.cell? ⟨gb276, 0, none⟩ = some (.int .i64 0) := (blk_cell BK276.out 0).trans rfl; have hcz37_1 : w33.cell? ⟨gb276, 1, none⟩ = some (.int .i64 0) := (blk_cell BK276.out 1).trans rfl; have hfz37_0 := blk_frozen BK276.out 0; have hfz37_1 := blk_frozen BK276.out 1; have hcz38_0 : w33.cell? ⟨gb271, 0, none⟩ = some (.int .i64 2) := (blk_cell BK271.out 0).trans rfl; have hcz38_1 : w33.cell? ⟨gb271, 1, none⟩ = some (.int .i64 0) := (blk_cell BK271.out 1).trans rfl; have hfz38_0 := blk_frozen BK271.out 0; have hfz38_1 := blk_frozen BK271.out 1) | ((first | ((with_reducible refine gate_callee (f := 36) rfl ?_); refine bC (some 18) Try.func36 #[.agg #[.int .i64 2, .int .i64 0], .int .i64 1099511627776, .int .i64 0] ?_) | go_at_call 36); (with_reducible refine (point_Move.calls k 2 0 1099511627776 0 t277 t278 false _ A2.out).mono ?_); rintro e w39 ⟨rfl, hb⟩; (first | refine ⟨_, rfl, ?_⟩ | skip); have n0_ := bA (blk_below (g := gb270) (o := .cells #[.int .i64 0, .int .i64 0] 31 (0, 0)) (by (with_reducible repeat (first | refine blk_drewN ?_ _ | refine blk_drew ?_ | refine blk_alloc ?_ _)); refine blk_far ?_ NB270_276.out _; (with_reducible repeat (first | refine blk_drewN ?_ _ | refine blk_drew ?_ | refine blk_alloc ?_ _)); refine blk_far ?_ NB270_276.out _; (with_reducible repeat (first | refine blk_drewN ?_ _ | refine blk_drew ?_ | refine blk_alloc ?_ _)); exact BK270.out) hb); have n1_ := bA (blk_below (g := gb271) (o := .cells #[.int .i64 2, .int .i64 0] 31 (0, 0)) (by (with_reducible repeat (first | refine blk_drewN ?_ _ | refine blk_drew ?_ | refine blk_alloc ?_ _)); refine blk_far ?_ NB271_276.out _; (with_reducible repeat (first | refine blk_drewN ?_ _ | refine blk_drew ?_ | refine blk_alloc ?_ _)); refine blk_far ?_ NB271_276.out _; (with_reducible repeat (first | refine blk_drewN ?_ _ | refine blk_drew ?_ | refine blk_alloc ?_ _)); exact BK271.out) hb); have n2_ := bA (blk_below (g := gb272) (o := .cells #[.int .i64 2, .int .i64 2] 31 (0, 0)) (by (with_reducible repeat (first | refine blk_drewN ?_ _ | refine blk_drew ?_ | refine blk_alloc ?_ _)); refine blk_far ?_ NB272_276.out _; (with_reducible repeat (first | refine blk_drewN ?_ _ | refine blk_drew ?_ | refine blk_alloc ?_ _)); refine blk_far ?_ NB272_276.out _; (with_reducible repeat (first | refine blk_drewN ?_ _ | refine blk_drew ?_ | refine blk_alloc ?_ _)); exact BK272.out) hb); have n3_ := bA (blk_below (g := gb276) (o := .cells #[.int .i64 t273, .int .i64 t274] 31 (0, 0)) (by (with_reducible repeat (first | refine blk_drewN ?_ _ | refine blk_drew ?_ | refine blk_alloc ?_ _)); refine blk_put (cs := #[.int .i64 t273, .int .i64 0]) ?_ 1 _ rfl; (with_reducible repeat (first | refine blk_drewN ?_ _ | refine blk_drew ?_ | refine blk_alloc ?_ _)); refine blk_put (cs := #[.int .i64 0, .int .i64 0]) ?_ 0 _ rfl; (with_reducible repeat (first | refine blk_drewN ?_ _ | refine blk_drew ?_ | refine blk_alloc ?_ _)); exact BK276.out) hb); have n4_ := bA (bS hb); clear BK270; clear BK271; clear BK272; clear BK276; clear HB; have BK270 := n0_; have BK271 := n1_; have BK272 := n2_; have BK276 := n3_; have HB := n4_; clear n0_ n1_ n2_ n3_ n4_; (try clear hb); (try clear hb2); (try clear hk); (try clear hi)) | ((with_reducible refine gate_dst (N := 6) rfl ?_); (try (refine gate_guard (by rfl) ?_; dsimp only)); refine bE (N := 6) (cs := #[.int .i64 0, .int .i64 0]) (t := 31) ?_; intro gb280 hg w40 hbox hb; have n0_ := bA (bB BK270 hb); have n1_ := bA (bB BK271 hb); have n2_ := bA (bB BK272 hb); have n3_ := bA (bB BK276 hb); have n4_ := bA (bS hb); have n5_ := bA (hbox); have n6_ := bA ((bZ hg : w.heap.size ≤ gb280)); have n7_ := bA ((bZ hg : w.heap.size ≤ gb280)); have n8_ := bA ((bL BK270 hg : gb270 ≠ gb280)); have n9_ := bA ((bG BK270 hg : gb280 ≠ gb270)); have n10_ := bA ((bL BK271 hg : gb271 ≠ gb280)); have n11_ := bA ((bG BK271 hg : gb280 ≠ gb271)); have n12_ := bA ((bL BK272 hg : gb272 ≠ gb280)); have n13_ := bA ((bG BK272 hg : gb280 ≠ gb272)); have n14_ := bA ((bL BK276 hg : gb276 ≠ gb280)); have n15_ := bA ((bG BK276 hg : gb280 ≠ gb276)); clear BK270; clear BK271; clear BK272; clear BK276; clear HB; have BK270 := n0_; have BK271 := n1_; have BK272 := n2_; have BK276 := n3_; have HB := n4_; have BK280 := n5_; have GW280 := n6_; have GE280 := n7_; have NB270_280 := n8_; have NB280_270 := n9_; have NB271_280 := n10_; have NB280_271 := n11_; have NB272_280 := n12_; have NB280_272 := n13_; have NB276_280 := n14_; have NB280_276 := n15_; clear n0_ n1_ n2_ n3_ n4_ n5_ n6_ n7_ n8_ n9_ n10_ n11_ n12_ n13_ n14_ n15_; clear hb hbox hg; have hnb41 := NB280_270.out; have hnc41 := NB270_280.out; have hnb42 := NB280_271.out; have hnc42 := NB271_280.out; have hnb43 := NB280_272.out; have hnc43 := NB272_280.out; have hnb44 := NB280_276.out; have hnc44 := NB276_280.out; have hcz45_0 : w40.cell? ⟨gb280, 0, none⟩ = some (.int .i64 0) := (blk_cell BK280.out 0).trans rfl; have hcz45_1 : w40.cell? ⟨gb280, 1, none⟩ = some (.int .i64 0) := (blk_cell BK280.out 1).trans rfl; have hfz45_0 := blk_frozen BK280.out 0; have hfz45_1 := blk_frozen BK280.out 1; have hcz46_0 : w40.cell? ⟨gb270, 0, none⟩ = some (.int .i64 0) := (blk_cell BK270.out 0).trans rfl; have hcz46_1 : w40.cell? ⟨gb270, 1, none⟩ = some (.int .i64 0) := (blk_cell BK270.out 1).trans rfl; have hfz46_0 := blk_frozen BK270.out 0; have hfz46_1 := blk_frozen BK270.out 1; have hcz47_0 : w40.cell? ⟨gb271, 0, none⟩ = some (.int .i64 2) := (blk_cell BK271.out 0).trans rfl; have hcz47_1 : w40.cell? ⟨gb271, 1, none⟩ = some (.int .i64 0) := (blk_cell BK271.out 1).trans rfl; have hfz47_0 := blk_frozen BK271.out 0; have hfz47_1 := blk_frozen BK271.out 1; have hcz48_0 : w40.cell? ⟨gb272, 0, none⟩ = some (.int .i64 2) := (blk_cell BK272.out 0).trans rfl; have hcz48_1 : w40.cell? ⟨gb272, 1, none⟩ = some (.int .i64 2) := (blk_cell BK272.out 1).trans rfl; have hfz48_0 := blk_frozen BK272.out 0; have hfz48_1 := blk_frozen BK272.out 1) | ((first | ((with_reducible refine gate_callee (f := 18) rfl ?_); refine bC (some 24) Try.func18 #[.agg #[.int .i64 0, .int .i64 0], .agg #[.int .i64 2, .int .i64 0], .agg #[.int .i64 2, .int .i64 2]] ?_) | go_at_call 18); (with_reducible refine (point_Turn.calls k 0 0 2 0 2 2 t281 _ A3.out).mono ?_); rintro e w49 ⟨rfl, hb⟩; (first | refine ⟨_, rfl, ?_⟩ | skip); have n0_ := bA (blk_below (g := gb270) (o := .cells #[.int .i64 0, .int .i64 0] 31 (0, 0)) (by (with_reducible repeat (first | refine blk_drewN ?_ _ | refine blk_drew ?_ | refine blk_alloc ?_ _)); refine blk_far ?_ NB270_280.out _; (with_reducible repeat (first | refine blk_drewN ?_ _ | refine blk_drew ?_ | refine blk_alloc ?_ _)); refine blk_far ?_ NB270_280.out _; (with_reducible repeat (first | refine blk_drewN ?_ _ | refine blk_drew ?_ | refine blk_alloc ?_ _)); exact BK270.out) hb); have n1_ := bA (blk_below (g := gb271) (o := .cells #[.int .i64 2, .int .i64 0] 31 (0, 0)) (by (with_reducible repeat (first | refine blk_drewN ?_ _ | refine blk_drew ?_ | refine blk_alloc ?_ _)); refine blk_far ?_ NB271_280.out _; (with_reducible repeat (first | refine blk_drewN ?_ _ | refine blk_drew ?_ | refine blk_alloc ?_ _)); refine blk_far ?_ NB271_280.out _; (with_reducible repeat (first | refine blk_drewN ?_ _ | refine blk_drew ?_ | refine blk_alloc ?_ _)); exact BK271.out) hb); have n2_ := bA (blk_below (g := gb272) (o := .cells #[.int .i64 2, .int .i64 2] 31 (0, 0)) (by (with_reducible repeat (first | refine blk_drewN ?_ _ | refine blk_drew ?_ | refine blk_alloc ?_ _)); refine blk_far ?_ NB272_280.out _; (with_reducible repeat (first | refine blk_drewN ?_ _ | refine blk_drew ?_ | refine blk_alloc ?_ _)); refine blk_far ?_ NB272_280.out _; (with_reducible repeat (first | refine blk_drewN ?_ _ | refine blk_drew ?_ | refine blk_alloc ?_ _)); exact BK272.out) hb); have n3_ := bA (blk_below (g := gb276) (o := .cells #[.int .i64 t273, .int .i64 t274] 31 (0, 0)) (by (with_reducible repeat (first | refine blk_drewN ?_ _ | refine blk_drew ?_ | refine blk_alloc ?_ _)); refine blk_far ?_ NB276_280.out _; (with_reducible repeat (first | refine blk_drewN ?_ _ | refine blk_drew ?_ | refine blk_alloc ?_ _)); refine blk_far ?_ NB276_280.out _; (with_reducible repeat (first | refine blk_drewN ?_ _ | refine blk_drew ?_ | refine blk_alloc ?_ _)); exact BK276.out) hb); have n4_ := bA (blk_below (g := gb280) (o := .cells #[.int .i64 t277, .int .i64 t278] 31 (0, 0)) (by (with_reducible repeat (first | refine blk_drewN ?_ _ | refine blk_drew ?_ | refine blk_alloc ?_ _)); refine blk_put (cs := #[.int .i64 t277, .int .i64 0]) ?_ 1 _ rfl; (with_reducible repeat (first | refine blk_drewN ?_ _ | refine blk_drew ?_ | refine blk_alloc ?_ _)); refine blk_put (cs := #[.int .i64 0, .int .i64 0]) ?_ 0 _ rfl; (with_reducible repeat (first | refine blk_drewN ?_ _ | refine blk_drew ?_ | refine blk_alloc ?_ _)); exact BK280.out) hb); have n5_ := bA (bS hb); clear BK270; clear BK271; clear BK272; clear BK276; clear BK280; clear HB; have BK270 := n0_; have BK271 := n1_; have BK272 := n2_; have BK276 := n3_; have BK280 := n4_; have HB := n5_; clear n0_ n1_ n2_ n3_ n4_ n5_; (try clear hb); (try clear hb2); (try clear hk); (try clear hi); have hcz50_0 : w49.cell? ⟨gb272, 0, none⟩ = some (.int .i64 2) := (blk_cell BK272.out 0).trans rfl; have hcz50_1 : w49.cell? ⟨gb272, 1, none⟩ = some (.int .i64 2) := (blk_cell BK272.out 1).trans rfl; have hfz50_0 := blk_frozen BK272.out 0; have hfz50_1 := blk_frozen BK272.out 1; have hcz51_0 : w49.cell? ⟨gb271, 0, none⟩ = some (.int .i64 2) := (blk_cell BK271.out 0).trans rfl; have hcz51_1 : w49.cell? ⟨gb271, 1, none⟩ = some (.int .i64 0) := (blk_cell BK271.out 1).trans rfl; have hfz51_0 := blk_frozen BK271.out 0; have hfz51_1 := blk_frozen BK271.out 1; have hcz52_0 : w49.cell? ⟨gb270, 0, none⟩ = some (.int .i64 0) := (blk_cell BK270.out 0).trans rfl; have hcz52_1 : w49.cell? ⟨gb270, 1, none⟩ = some (.int .i64 0) := (blk_cell BK270.out 1).trans rfl; have hfz52_0 := blk_frozen BK270.out 0; have hfz52_1 := blk_frozen BK270.out 1) | (go_at_call 18; (with_reducible refine (point_Turn.calls k 2 2 2 0 0 0 t282 _ A5.out).mono ?_); rintro e w53 ⟨rfl, hb⟩; have n0_ := bA (bB BK270 hb); have n1_ := bA (bB BK271 hb); have n2_ := bA (bB BK272 hb); have n3_ := bA (bB BK276 hb); have n4_ := bA (bB BK280 hb); have n5_ := bA (bS hb); clear BK270; clear BK271; clear BK272; clear BK276; clear BK280; clear HB; have BK270 := n0_; have BK271 := n1_; have BK272 := n2_; have BK276 := n3_; have BK280 := n4_; have HB := n5_; clear n0_ n1_ n2_ n3_ n4_ n5_; (try clear hb); (try clear hb2); (try clear hk); (try clear hi); have hcz54_0 : w53.cell? ⟨gb270, 0, none⟩ = some (.int .i64 0) := (blk_cell BK270.out 0).trans rfl; have hcz54_1 : w53.cell? ⟨gb270, 1, none⟩ = some (.int .i64 0) := (blk_cell BK270.out 1).trans rfl; have hfz54_0 := blk_frozen BK270.out 0; have hfz54_1 := blk_frozen BK270.out 1; have hcz55_0 : w53.cell? ⟨gb272, 0, none⟩ = some (.int .i64 2) := (blk_cell BK272.out 0).trans rfl; have hcz55_1 : w53.cell? ⟨gb272, 1, none⟩ = some (.int .i64 2) := (blk_cell BK272.out 1).trans rfl; have hfz55_0 := blk_frozen BK272.out 0; have hfz55_1 := blk_frozen BK272.out 1) | (go_at_call 20; (with_reducible refine (point_On.calls k 1 1 0 0 2 2 true _ A7.out).mono ?_); rintro e w56 ⟨rfl, hb⟩; have n0_ := bA (bB BK270 hb); have n1_ := bA (bB BK271 hb); have n2_ := bA (bB BK272 hb); have n3_ := bA (bB BK276 hb); have n4_ := bA (bB BK280 hb); have n5_ := bA (bS hb); clear BK270; clear BK271; clear BK272; clear BK276; clear BK280; clear HB; have BK270 := n0_; have BK271 := n1_; have BK272 := n2_; have BK276 := n3_; have BK280 := n4_; have HB := n5_; clear n0_ n1_ n2_ n3_ n4_ n5_; (try clear hb); (try clear hb2); (try clear hk); (try clear hi); have hcz57_0 : w56.cell? ⟨gb271, 0, none⟩ = some (.int .i64 2) := (blk_cell BK271.out 0).trans rfl; have hcz57_1 : w56.cell? ⟨gb271, 1, none⟩ = some (.int .i64 0) := (blk_cell BK271.out 1).trans rfl; have hfz57_0 := blk_frozen BK271.out 0; have hfz57_1 := blk_frozen BK271.out 1; have hcz58_0 : w56.cell? ⟨gb270, 0, none⟩ = some (.int .i64 0) := (blk_cell BK270.out 0).trans rfl; have hcz58_1 : w56.cell? ⟨gb270, 1, none⟩ = some (.int .i64 0) := (blk_cell BK270.out 1).trans rfl; have hfz58_0 := blk_frozen BK270.out 0; have hfz58_1 := blk_frozen BK270.out 1; have hcz59_0 : w56.cell? ⟨gb272, 0, none⟩ = some (.int .i64 2) := (blk_cell BK272.out 0).trans rfl; have hcz59_1 : w56.cell? ⟨gb272, 1, none⟩ = some (.int .i64 2) := (blk_cell BK272.out 1).trans rfl; have hfz59_0 := blk_frozen BK272.out 0; have hfz59_1 := blk_frozen BK272.out 1) | (go_at_call 20; (with_reducible refine (point_On.calls k 2 0 0 0 2 2 false _ A9.out).mono ?_); rintro e w60 ⟨rfl, hb⟩; have n0_ := bA (bB BK270 hb); have n1_ := bA (bB BK271 hb); have n2_ := bA (bB BK272 hb); have n3_ := bA (bB BK276 hb); have n4_ := bA (bB BK280 hb); have n5_ := bA (bS hb); clear BK270; clear BK271; clear BK272; clear BK276; clear BK280; clear HB; have BK270 := n0_; have BK271 := n1_; have BK272 := n2_; have BK276 := n3_; have BK280 := n4_; have HB := n5_; clear n0_ n1_ n2_ n3_ n4_ n5_; (try clear hb); (try clear hb2); (try clear hk); (try clear hi); have hcz61_0 : w60.cell? ⟨gb270, 0, none⟩ = some (.int .i64 0) := (blk_cell BK270.out 0).trans rfl; have hcz61_1 : w60.cell? ⟨gb270, 1, none⟩ = some (.int .i64 0) := (blk_cell BK270.out 1).trans rfl; have hfz61_0 := blk_frozen BK270.out 0; have hfz61_1 := blk_frozen BK270.out 1; have hcz62_0 : w60.cell? ⟨gb272, 0, none⟩ = some (.int .i64 2) := (blk_cell BK272.out 0).trans rfl; have hcz62_1 : w60.cell? ⟨gb272, 1, none⟩ = some (.int .i64 2) := (blk_cell BK272.out 1).trans rfl; have hfz62_0 := blk_frozen BK272.out 0; have hfz62_1 := blk_frozen BK272.out 1; have hcz63_0 : w60.cell? ⟨gb271, 0, none⟩ = some (.int .i64 2) := (blk_cell BK271.out 0).trans rfl; have hcz63_1 : w60.cell? ⟨gb271, 1, none⟩ = some (.int .i64 0) := (blk_cell BK271.out 1).trans rfl; have hfz63_0 := blk_frozen BK271.out 0; have hfz63_1 := blk_frozen BK271.out 1) | (go_at_call 22; (with_reducible refine (point_Meet.calls k 0 0 2 2 2 0 0 2 true _ A11.out).mono ?_); rintro e w64 ⟨rfl, hb⟩; have n0_ := bA (bB BK270 hb); have n1_ := bA (bB BK271 hb); have n2_ := bA (bB BK272 hb); have n3_ := bA (bB BK276 hb); have n4_ := bA (bB BK280 hb); have n5_ := bA (bS hb); clear BK270; clear BK271; clear BK272; clear BK276; clear BK280; clear HB; have BK270 := n0_; have BK271 := n1_; have BK272 := n2_; have BK276 := n3_; have BK280 := n4_; have HB := n5_; clear n0_ n1_ n2_ n3_ n4_ n5_; (try clear hb); (try clear hb2); (try clear hk); (try clear hi); have hcz65_0 : w64.cell? ⟨gb270, 0, none⟩ = some (.int .i64 0) := (blk_cell BK270.out 0).trans rfl; have hcz65_1 : w64.cell? ⟨gb270, 1, none⟩ = some (.int .i64 0) := (blk_cell BK270.out 1).trans rfl; have hfz65_0 := blk_frozen BK270.out 0; have hfz65_1 := blk_frozen BK270.out 1; have hcz66_0 : w64.cell? ⟨gb271, 0, none⟩ = some (.int .i64 2) := (blk_cell BK271.out 0).trans rfl; have hcz66_1 : w64.cell? ⟨gb271, 1, none⟩ = some (.int .i64 0) := (blk_cell BK271.out 1).trans rfl; have hfz66_0 := blk_frozen BK271.out 0; have hfz66_1 := blk_frozen BK271.out 1; have hcz67_0 : w64.cell? ⟨gb272, 0, none⟩ = some (.int .i64 2) := (blk_cell BK272.out 0).trans rfl; have hcz67_1 : w64.cell? ⟨gb272, 1, none⟩ = some (.int .i64 2) := (blk_cell BK272.out 1).trans rfl; have hfz67_0 := blk_frozen BK272.out 0; have hfz67_1 := blk_frozen BK272.out 1) | (go_at_call 22; (with_reducible refine (point_Meet.calls k 0 0 1 0 2 0 2 2 false _ A13.out).mono ?_); rintro e w68 ⟨rfl, hb⟩; have n0_ := bA (bB BK270 hb); have n1_ := bA (bB BK271 hb); have n2_ := bA (bB BK272 hb); have n3_ := bA (bB BK276 hb); have n4_ := bA (bB BK280 hb); have n5_ := bA (bS hb); clear BK270; clear BK271; clear BK272; clear BK276; clear BK280; clear HB; have BK270 := n0_; have BK271 := n1_; have BK272 := n2_; have BK276 := n3_; have BK280 := n4_; have HB := n5_; clear n0_ n1_ n2_ n3_ n4_ n5_; (try clear hb); (try clear hb2); (try clear hk); (try clear hi); have hcz69_0 : w68.cell? ⟨gb272, 0, none⟩ = some (.int .i64 2) := (blk_cell BK272.out 0).trans rfl; have hcz69_1 : w68.cell? ⟨gb272, 1, none⟩ = some (.int .i64 2) := (blk_cell BK272.out 1).trans rfl; have hfz69_0 := blk_frozen BK272.out 0; have hfz69_1 := blk_frozen BK272.out 1) | (go_at_call 16; (with_reducible refine (point_Right.calls 2 2 true _ A15.out).mono ?_); rintro e w70 ⟨rfl, hb⟩; have n0_ := bA (bB BK270 hb); have n1_ := bA (bB BK271 hb); have n2_ := bA (bB BK272 hb); have n3_ := bA (bB BK276 hb); have n4_ := bA (bB BK280 hb); have n5_ := bA (bS hb); clear BK270; clear BK271; clear BK272; clear BK276; clear BK280; clear HB; have BK270 := n0_; have BK271 := n1_; have BK272 := n2_; have BK276 := n3_; have BK280 := n4_; have HB := n5_; clear n0_ n1_ n2_ n3_ n4_ n5_; (try clear hb); (try clear hb2); (try clear hk); (try clear hi)) | (go_at_call 16; (with_reducible refine (point_Right.calls 1099511627777 0 false _ A17.out).mono ?_); rintro e w71 ⟨rfl, hb⟩; have n0_ := bA (bB BK270 hb); have n1_ := bA (bB BK271 hb); have n2_ := bA (bB BK272 hb); have n3_ := bA (bB BK276 hb); have n4_ := bA (bB BK280 hb); have n5_ := bA (bS hb); clear BK270; clear BK271; clear BK272; clear BK276; clear BK280; clear HB; have BK270 := n0_; have BK271 := n1_; have BK272 := n2_; have BK276 := n3_; have BK280 := n4_; have HB := n5_; clear n0_ n1_ n2_ n3_ n4_ n5_; (try clear hb); (try clear hb2); (try clear hk); (try clear hi); have hcz72_0 : w71.cell? ⟨gb276, 0, none⟩ = some (.int .i64 t273) := (blk_cell BK276.out 0).trans rfl; have hcz72_1 : w71.cell? ⟨gb276, 1, none⟩ = some (.int .i64 t274) := (blk_cell BK276.out 1).trans rfl; have hfz72_0 := blk_frozen BK276.out 0; have hfz72_1 := blk_frozen BK276.out 1) | ((with_reducible refine gate_dst (N := 83) rfl ?_); (try (refine gate_guard (by rfl) ?_; dsimp only)); refine Kd.R_lit k31 _ 31 ?hg (N := 83) ?hd (xs := ([] : List (S31))) (inner := []) (ok := fun _ => True) (okp := fun _ => True) ?hr ?hp (fun _ hk => hk) trivial (Below.refl _ _) (Nat.le_refl _) (by simp) ?_; (case hd => rfl); (case hg => rfl); (case hr => first | (go_simp; done) | (go_simp; rfl)); (case hp => exact (Reps.none _ _)); intro v290 w73 ho74 hb hg_ hnew_; clear hg_ hnew_; (first | rw [← Ny289.out] at ho74 | (simp only [Int.reduceToNat] at ho74; rw [← Ny289.out] at ho74)); have n0_ := bA (Kd.R_lower (bN (bN (bN (bN (bN ho74 BK270) BK271) BK272) BK276) BK280) bY); have n1_ := bA (bB BK270 hb); have n2_ := bA (bB BK271 hb); have n3_ := bA (bB BK272 hb); have n4_ := bA (bB BK276 hb); have n5_ := bA (bB BK280 hb); have n6_ := bA (bS hb); clear BK270; clear BK271; clear BK272; clear BK276; clear BK280; clear HB; have HO291 := n0_; have BK270 := n1_; have BK271 := n2_; have BK272 := n3_; have BK276 := n4_; have BK280 := n5_; have HB := n6_; clear n0_ n1_ n2_ n3_ n4_ n5_ n6_; clear hb ho74; obtain ⟨Ao75, co75, eo75⟩ := Kd.R_slice HO291.out; subst eo75) | (go_at_call 37; (refine (point_Same.calls k _ _ ([] : List (S31)) _ _ y289 t292 _ ?side1 ?side2 ?side3 ?side4 A22.out).mono ?_); (case side1 => exact Kd.C_nil _ _); (case side2 => exact Nat.le_refl _); (case side3 => repeat (first | exact (Kd.R_reads' HO291.out).2.2 | (with_reducible refine Kd.C_alloc ?_ _) | (with_reducible refine Kd.C_drewN ?_ _) | (with_reducible refine Kd.C_drew ?_))); (case side4 => exact (Kd.R_reads' HO291.out).2.1); rintro e w' ⟨rfl, ⟨nd, rfl⟩⟩))
            go_ret
            exact bF
          ·replace c20 := Bool.eq_false_iff.mpr c20
           subst c20
           rw [if_neg (show ¬ (false = true) by decide)] at H
           exact absurd H (by simp)
         ·rw [if_neg c19] at H
          exact absurd H (by simp)
       ·replace c16 := Bool.eq_false_iff.mpr c16
        subst c16
        rw [if_neg (show ¬ (false = true) by decide)] at H
        exact absurd H (by simp)
     ·replace c12 := Bool.eq_false_iff.mpr c12
      subst c12
      rw [if_neg (show ¬ (false = true) by decide)] at H
      exact absurd H (by simp)
   ·replace c8 := Bool.eq_false_iff.mpr c8
    subst c8
    rw [if_neg (show ¬ (false = true) by decide)] at H
    exact absurd H (by simp)
  ·rw [if_neg c6] at H
   exact absurd H (by simp)
 ·rw [if_neg c4] at H
  exact absurd H (by simp)
/-! ### apogeeref10_Right: function 17 -/
def apogeeref10_Right.f (a0_0 : Int) (a0_1 : Int) : Option (Bool) := if a0_0 ≥ (-1099511627776) then (if a0_0 ≤ 1099511627776 then (if a0_1 ≥ (-1099511627776) then (some (decide (a0_1 ≤ 1099511627776))) else (some false)) else (some false)) else (some false)
set_option maxHeartbeats 8000000 in
set_option maxRecDepth 100000 in
theorem apogeeref10_Right.calls (a0_0 : Int) (a0_1 : Int) (r : Bool) (w : World) (h : apogeeref10_Right.f a0_0 a0_1 = some r) :
  Calls Try.prog 17 #[.agg #[.int .i64 a0_0, .int .i64 a0_1]] w fun e w' => e = .returned (.bool r) ∧ Below w.heap.size w w' := by
 have hu31 := Try.underlying31
 have HB := bA (Below.refl w.heap.size w)
 have H : (if a0_0 ≥ (-1099511627776) then (if a0_0 ≤ 1099511627776 then (if a0_1 ≥ (-1099511627776) then (some (decide (a0_1 ≤ 1099511627776))) else (some false)) else (some false)) else (some false)) = some r := h
 clear h
 by_cases c2 : a0_0 ≥ (-1099511627776)
 rw [if_pos c2] at H
 have c2b0 : decide ((-1099511627776) ≤ a0_0) = true := decide_eq_true c2
 clear c2
 by_cases c3 : a0_0 ≤ 1099511627776
 rw [if_pos c3] at H
 have c3b0 : decide (a0_0 ≤ 1099511627776) = true := decide_eq_true c3
 clear c3
 by_cases c4 : a0_1 ≥ (-1099511627776)
 rw [if_pos c4] at H
 have c4b0 : decide ((-1099511627776) ≤ a0_1) = true := decide_eq_true c4
 clear c4
 obtain rfl := Option.some.inj H
 rotate_left
 rw [if_neg c4] at H
 have c4b0 : decide ((-1099511627776) ≤ a0_1) = false := decide_eq_false c4
 clear c4
 obtain rfl := Option.some.inj H
 rotate_left
 rw [if_neg c3] at H
 have c3b0 : decide (a0_0 ≤ 1099511627776) = false := decide_eq_false c3
 clear c3
 obtain rfl := Option.some.inj H
 rotate_left
 rw [if_neg c2] at H
 have c2b0 : decide ((-1099511627776) ≤ a0_0) = false := decide_eq_false c2
 clear c2
 obtain rfl := Option.some.inj H
 rotate_left
 all_goals go_enter Try.func17, Try.ntmps17
 all_goals go_wp2_with (first | ((with_reducible refine gate_dst (N := 1) rfl ?_); refine bE (N := 1) (cs := #[.int .i64 a0_0, .int .i64 a0_1]) (t := 31) ?_; intro gb293 hg wz0 hbox hb; have n0_ := bA (bS hb); have n1_ := bA (hbox); have n2_ := bA ((bZ hg : w.heap.size ≤ gb293)); have n3_ := bA ((bZ hg : w.heap.size ≤ gb293)); clear HB; have HB := n0_; have BK293 := n1_; have GW293 := n2_; have GE293 := n3_; clear n0_ n1_ n2_ n3_; clear hb hbox hg; have hz1 : wz0.cell? ⟨gb293, 0, none⟩ = some (.int .i64 a0_0) := (blk_cell BK293.out 0).trans rfl; have hz2 : wz0.cell? ⟨gb293, 1, none⟩ = some (.int .i64 a0_1) := (blk_cell BK293.out 1).trans rfl; have hz3 := blk_frozen BK293.out 0; have hz4 := blk_frozen BK293.out 1))
 all_goals (go_ret; exact bF)
/-! ### apogeeref10_short: function 42 -/
def apogeeref10_short.f (a0 : Int) : Option (Bool) := if a0 > (-2147483648) then (some (decide (a0 < 2147483648))) else (some false)
set_option maxHeartbeats 8000000 in
set_option maxRecDepth 100000 in
theorem apogeeref10_short.calls (a0 : Int) (r : Bool) (w : World) (h : apogeeref10_short.f a0 = some r) :
  Calls Try.prog 42 #[.int .i64 a0] w fun e w' => e = .returned (.bool r) ∧ Drawn0 w w' := by
 have H : (if a0 > (-2147483648) then (some (decide (a0 < 2147483648))) else (some false)) = some r := h
 clear h
 by_cases c2 : a0 > (-2147483648)
 rw [if_pos c2] at H
 have c2b0 : decide ((-2147483648) < a0) = true := decide_eq_true c2
 clear c2
 obtain rfl := Option.some.inj H
 rotate_left
 rw [if_neg c2] at H
 have c2b0 : decide ((-2147483648) < a0) = false := decide_eq_false c2
 clear c2
 obtain rfl := Option.some.inj H
 rotate_left
 all_goals go_enter Try.func42, Try.ntmps42
 all_goals go_wp2
 all_goals (go_ret; exact bD)
/-! ### apogeeref01_Of: function 62 -/
def apogeeref01_Of.f (a0 : Int) : Option (Int × Int) := if a0 < 0 then (some ((-1), IntKind.u64.wrap (a0))) else (some (0, IntKind.u64.wrap (a0)))
set_option maxHeartbeats 8000000 in
set_option maxRecDepth 100000 in
theorem apogeeref01_Of.calls (a0 : Int) (r1 : Int) (r2 : Int) (w : World) (h : apogeeref01_Of.f a0 = some (r1, r2)) :
  Calls Try.prog 62 #[.int .i64 a0] w fun e w' => e = .returned (.agg #[.int .i64 r1, .int .u64 r2]) ∧ Below w.heap.size w w' := by
 have hu66 := Try.underlying66
 have HB := bA (Below.refl w.heap.size w)
 have H : (if a0 < 0 then (some ((-1), IntKind.u64.wrap (a0))) else (some (0, IntKind.u64.wrap (a0)))) = some (r1, r2) := h
 clear h
 by_cases c2 : a0 < 0
 rw [if_pos c2] at H
 have c2b0 : decide (a0 < 0) = true := decide_eq_true c2
 clear c2
 simp only [Option.some.injEq, Prod.mk.injEq] at H
 obtain ⟨rfl, rfl⟩ := H
 rotate_left
 rw [if_neg c2] at H
 have c2b0 : decide (a0 < 0) = false := decide_eq_false c2
 clear c2
 simp only [Option.some.injEq, Prod.mk.injEq] at H
 obtain ⟨rfl, rfl⟩ := H
 rotate_left
 all_goals go_enter Try.func62, Try.ntmps62
 all_goals go_wp2_with (first | ((with_reducible refine gate_dst (N := 2) rfl ?_); refine bE (N := 2) (cs := #[.int .i64 0, .int .u64 0]) (t := 66) ?_; intro gb294 hg wz0 hbox hb; have n0_ := bA (bS hb); have n1_ := bA (hbox); have n2_ := bA ((bZ hg : w.heap.size ≤ gb294)); have n3_ := bA ((bZ hg : w.heap.size ≤ gb294)); clear HB; have HB := n0_; have BK294 := n1_; have GW294 := n2_; have GE294 := n3_; clear n0_ n1_ n2_ n3_; clear hb hbox hg; have hz1 : wz0.cell? ⟨gb294, 0, none⟩ = some (.int .i64 0) := (blk_cell BK294.out 0).trans rfl; have hz2 : wz0.cell? ⟨gb294, 1, none⟩ = some (.int .u64 0) := (blk_cell BK294.out 1).trans rfl; have hz3 := blk_frozen BK294.out 0; have hz4 := blk_frozen BK294.out 1))
 ·refine bodyPost_ret (results_cell_row rfl _ _ gb294 66 #[.int .i64 (-1), .int .u64 (IntKind.u64.wrap (a0))] (0, 0) _ rfl (by (with_reducible repeat (first | refine blk_drewN ?_ _ | refine blk_drew ?_ | refine blk_alloc ?_ _)); refine blk_put (cs := #[.int .i64 (-1), .int .u64 0]) ?_ 1 _ rfl; (with_reducible repeat (first | refine blk_drewN ?_ _ | refine blk_drew ?_ | refine blk_alloc ?_ _)); refine blk_put (cs := #[.int .i64 0, .int .u64 0]) ?_ 0 _ rfl; (with_reducible repeat (first | refine blk_drewN ?_ _ | refine blk_drew ?_ | refine blk_alloc ?_ _)); exact BK294.out) Try.underlying66 rfl (by kernel_rfl)) rfl ?_
  exact bF
 ·refine bodyPost_ret (results_cell_row rfl _ _ gb294 66 #[.int .i64 0, .int .u64 (IntKind.u64.wrap (a0))] (0, 0) _ rfl (by (with_reducible repeat (first | refine blk_drewN ?_ _ | refine blk_drew ?_ | refine blk_alloc ?_ _)); refine blk_put (cs := #[.int .i64 0, .int .u64 0]) ?_ 1 _ rfl; (with_reducible repeat (first | refine blk_drewN ?_ _ | refine blk_drew ?_ | refine blk_alloc ?_ _)); refine blk_put (cs := #[.int .i64 0, .int .u64 0]) ?_ 0 _ rfl; (with_reducible repeat (first | refine blk_drewN ?_ _ | refine blk_drew ?_ | refine blk_alloc ?_ _)); exact BK294.out) Try.underlying66 rfl (by kernel_rfl)) rfl ?_
  exact bF
/-! ### apogeeref01_bits: function 74 -/
mutual
def apogeeref01_bits.l0 : Nat → List Int → Int → Int → Int → Option (List Int)
 | 0, _, _, _, _ => none
 | k + 1, x3, x4, x296000, x296001 => if x4 < 64 then (if 0 ≤ x4 then (if x3.length < 17592186044416 then (apogeeref01_bits.l0 k (x3 ++ [wrap64 (Go.bits .and .u64 (shr .u64 x296001 x4) 1)]) (wrap64 (x4 + 1)) x296000 x296001) else (none)) else (none)) else (apogeeref01_bits.l1 k x3 0 x296000 x296001)
def apogeeref01_bits.l1 : Nat → List Int → Int → Int → Int → Option (List Int)
 | 0, _, _, _, _ => none
 | k + 1, x3, x5, x296000, x296001 => if x5 < 64 then (if 0 ≤ x5 then (if x3.length < 17592186044416 then (apogeeref01_bits.l1 k (x3 ++ [wrap64 (Go.bits .and .u64 (shr .u64 (IntKind.u64.wrap (x296000)) x5) 1)]) (wrap64 (x5 + 1)) x296000 x296001) else (none)) else (none)) else (some x3)
end
def apogeeref01_bits.f (k : Nat) (a0_0 : Int) (a0_1 : Int) : Option (List Int) := apogeeref01_bits.l0 k ([] : List Int) 0 a0_0 a0_1
theorem apogeeref01_bits.mono_l : ∀ k, (∀ y0 y1 y2 y3, LeO (apogeeref01_bits.l0 k y0 y1 y2 y3) (apogeeref01_bits.l0 (k + 1) y0 y1 y2 y3)) ∧ (∀ y0 y1 y2 y3, LeO (apogeeref01_bits.l1 k y0 y1 y2 y3) (apogeeref01_bits.l1 (k + 1) y0 y1 y2 y3))
 | 0 => ⟨fun _ _ _ _ r h => by simp [apogeeref01_bits.l0] at h, fun _ _ _ _ r h => by simp [apogeeref01_bits.l1] at h⟩
 | k + 1 => by
  obtain ⟨ih0, ih1⟩ := apogeeref01_bits.mono_l k
  refine ⟨?_, ?_⟩
  ·intro y0 y1 y2 y3
   unfold apogeeref01_bits.l0
   repeat' first
   | (with_reducible exact ih0 _ _ _ _)
   | (with_reducible exact ih1 _ _ _ _)
   | (with_reducible exact LeO.refl _)
   | (with_reducible exact LeO.none _)
   | (with_reducible refine LeO.ite ?_ ?_)
   | (with_reducible refine LeO.bind ?_ (fun _ => ?_))
   | exact ih0 _ _ _ _
   | exact ih1 _ _ _ _
   | exact LeO.none _
   | refine LeO.ite ?_ ?_
   | refine LeO.bind ?_ (fun _ => ?_)
  ·intro y0 y1 y2 y3
   unfold apogeeref01_bits.l1
   repeat' first
   | (with_reducible exact ih0 _ _ _ _)
   | (with_reducible exact ih1 _ _ _ _)
   | (with_reducible exact LeO.refl _)
   | (with_reducible exact LeO.none _)
   | (with_reducible refine LeO.ite ?_ ?_)
   | (with_reducible refine LeO.bind ?_ (fun _ => ?_))
   | exact ih0 _ _ _ _
   | exact ih1 _ _ _ _
   | exact LeO.none _
   | refine LeO.ite ?_ ?_
   | refine LeO.bind ?_ (fun _ => ?_)
theorem apogeeref01_bits.mono : ∀ a0 a1 k, LeO (apogeeref01_bits.f k a0 a1) (apogeeref01_bits.f (k + 1) a0 a1) := by
 intro a0 a1 k
 obtain ⟨ih0, ih1⟩ := apogeeref01_bits.mono_l k
 unfold apogeeref01_bits.f
 repeat' first
   | (with_reducible exact ih0 _ _ _ _)
   | (with_reducible exact ih1 _ _ _ _)
   | (with_reducible exact LeO.refl _)
   | (with_reducible exact LeO.none _)
   | (with_reducible refine LeO.ite ?_ ?_)
   | (with_reducible refine LeO.bind ?_ (fun _ => ?_))
   | exact ih0 _ _ _ _
   | exact ih1 _ _ _ _
   | exact LeO.none _
   | refine LeO.ite ?_ ?_
   | refine LeO.bind ?_ (fun _ => ?_)
set_option maxHeartbeats 8000000 in
set_option maxRecDepth 100000 in
theorem apogeeref01_bits.calls (k : Nat) (a0_0 : Int) (a0_1 : Int) (r : List Int) (w : World) (h : apogeeref01_bits.f k a0_0 a0_1 = some r) :
  Calls Try.prog 74 #[.agg #[.int .i64 a0_0, .int .u64 a0_1]] w fun e w' => ∃ v0_ : Value, e = .returned (v0_) ∧ Kd.R (Kd.int .i64) 3 w' w.heap.size (fun _ => True) v0_ r ∧ Below w.heap.size w w' := by
 have hu66 := Try.underlying66
 have HB := bA (Below.refl w.heap.size w)
 have H : (apogeeref01_bits.l0 k ([] : List Int) 0 a0_0 a0_1) = some r := h
 clear h
 have H' := bA H
 clear H
 go_enter Try.func74, Try.ntmps74
 go_wp2_with (first | ((with_reducible refine gate_dst (N := 1) rfl ?_); refine bE (N := 1) (cs := #[.int .i64 a0_0, .int .u64 a0_1]) (t := 66) ?_; intro gb295 hg w2 hbox hb; have n0_ := bA (bS hb); have n1_ := bA (hbox); have n2_ := bA ((bZ hg : w.heap.size ≤ gb295)); have n3_ := bA ((bZ hg : w.heap.size ≤ gb295)); clear HB; have HB := n0_; have BK295 := n1_; have GW295 := n2_; have GE295 := n3_; clear n0_ n1_ n2_ n3_; clear hb hbox hg))
 go_loopg [3, 4] k (fun kq v3 v4 w' => ∃ (x3_1 : List Int) (x4_1 : Int), v4 = .int .i64 x4_1 ∧ Aside0 (apogeeref01_bits.l0 kq x3_1 x4_1 a0_0 a0_1 = some r) ∧ Aside0 (kq ≤ k) ∧ Aside0 (Kd.R (Kd.int .i64) 3 w' w.heap.size (fun _ => True) v3 x3_1) ∧ Aside0 (w'.heap[gb295]? = some (.cells #[.int .i64 a0_0, .int .u64 a0_1] 66 (0, 0))) ∧ Aside0 (Below w.heap.size w w'))
 case atStart => exact ⟨(([] : List Int)), (0), (by first | rfl | (simp; done) | (simp [*]; done)), H', ⟨Nat.le_refl _⟩, ⟨by first | exact Kd.R_nil _ _ _ _ _ | exact Kd.N_nil _ _ _ _ _ | exact Kd.V_nil _ _ _ _ _ | exact Kd.Q_nil _ _ _ _ _ | exact Kd.S_nil _ _ _ _ _⟩, ⟨by (with_reducible repeat (first | refine blk_drewN ?_ _ | refine blk_drew ?_ | refine blk_alloc ?_ _)); exact BK295.out⟩, ⟨bX⟩⟩
 case round =>
  clear H'
  try clear p2
  obtain ⟨x3_1, x4_1, rfl, HA, HK1, HO_3, BK295, HB⟩ := hrel
  cases gk with
  | zero => exact absurd HA.out (by simp [apogeeref01_bits.l0])
  | succ k1 =>
   have H := HA.out
   clear HA
   simp only [apogeeref01_bits.l0] at H
   by_cases c3 : x4_1 < 64
   ·rw [if_pos c3] at H
    have c3b0 : decide (x4_1 < 64) = true := decide_eq_true c3
    clear c3
    by_cases c4 : 0 ≤ x4_1
    ·rw [if_pos c4] at H
     have c4b0 := eq_true c4
     have c4b1 : decide (0 ≤ x4_1) = true := decide_eq_true c4
     clear c4
     obtain ⟨ji5, hji5⟩ : ∃ j_ : Int, (shr .u64 a0_1 x4_1) = j_ := ⟨_, rfl⟩
     replace H : (if x3_1.length < 17592186044416 then (apogeeref01_bits.l0 k1 (x3_1 ++ [wrap64 (Go.bits .and .u64 (ji5) 1)]) (wrap64 (x4_1 + 1)) a0_0 a0_1) else (none)) = some r := by first | (rw [hji5] at H; exact H) | (simp only [hji5] at H ⊢; exact H)
     have hji5_ : (a0_1 / 2 ^ min x4_1.toNat 64) = ji5 := hji5
     have hji5z : x4_1 ≤ 64 → (a0_1 / 2 ^ x4_1.toNat) = ji5 := shr_small hji5
     by_cases c6 : x3_1.length < 17592186044416
     ·rw [if_pos c6] at H
      have LMc6 := bA c6
      clear c6
      obtain ⟨y296, hy296⟩ : ∃ y_ : List Int, y_ = (x3_1 ++ [wrap64 (Go.bits .and .u64 (ji5) 1)]) := ⟨_, rfl⟩
      replace H : (apogeeref01_bits.l0 k1 y296 (wrap64 (x4_1 + 1)) a0_0 a0_1) = some r := by first | (rw [hy296]; with_reducible exact H) | (have H2_ := (Option.bind_some _ _).symm.trans H; rw [hy296]; with_reducible exact H2_) | (have H2_ := (Option.bind_some _ _).symm.trans H; with_reducible exact H2_) | with_reducible exact H | (rw [hy296]; exact H) | exact H
      have Ny296 := bA hy296
      clear hy296
      have H' := bA H
      clear H
      have hcz7_0 : wr.cell? ⟨gb295, 0, none⟩ = some (.int .i64 a0_0) := (blk_cell BK295.out 0).trans rfl
      have hcz7_1 : wr.cell? ⟨gb295, 1, none⟩ = some (.int .u64 a0_1) := (blk_cell BK295.out 1).trans rfl
      have hfz7_0 := blk_frozen BK295.out 0
      have hfz7_1 := blk_frozen BK295.out 1
      go_wp2_with (first | ((with_reducible refine gate_builtin (b := .append) (xs := #[.tmp 10, .tmp 17]) rfl ?_); at_builtin; refine Kd.R_append (Kd.int .i64) (w0 := w) w.heap.size rfl (.tmp 10) (.tmp 17) 94 3 (.int .i64 0) 8 rfl Try.underlying94 info3 rfl (by decide) (by omega) u3 x3_1 (wrap64 (Go.bits .and .u64 (ji5) 1)) [.int .i64 (wrap64 (Go.bits .and .u64 (ji5) 1))] (fun _ => True) (fun _ => False) rfl rfl ?aP (fun _ hk => hk.elim) ?aF ?aO ?aB ?aS ?aL ?_; (case aP => exact rfl); (case aB => exact bX); (case aF => exact (fun _ _ => trivial)); (case aO => exact (by (with_reducible repeat (first | apply Kd.R_alloc | apply Kd.R_drewN | apply Kd.R_drew)); exact HO_3.out)); (case aS => exact bY); (case aL => have := LMc6.out; omega); intro v297 w8 ho hb hg hat; rw [← Ny296.out] at ho; have n0_ := bA (blk_grown (g := gb295) (o := .cells #[.int .i64 a0_0, .int .u64 a0_1] 66 (0, 0)) (by (with_reducible repeat (first | refine blk_drewN ?_ _ | refine blk_drew ?_ | refine blk_alloc ?_ _)); exact BK295.out) hg (Kd.R_ne HO_3.out BK295.out (by decide))); have n1_ := bA (hb); have n2_ := bA (ho); clear BK295; clear HB; clear HO_3; have BK295 := n0_; have HB := n1_; have HO298 := n2_; clear n0_ n1_ n2_; clear ho hb hg hat))
      go_roundg k1
      case measure => have := HK1.out; omega
      case rel => exact ⟨(y296), (wrap64 (x4_1 + 1)), (by first | rfl | (simp; done) | (simp [*]; done)), H', ⟨by have := HK1.out; omega⟩, ⟨by (with_reducible repeat (first | apply Kd.R_alloc | apply Kd.R_drewN | apply Kd.R_drew)); exact HO298.out⟩, ⟨by (with_reducible repeat (first | refine blk_drewN ?_ _ | refine blk_drew ?_ | refine blk_alloc ?_ _)); exact BK295.out⟩, ⟨bX⟩⟩
     ·rw [if_neg c6] at H
      exact absurd H (by simp)
    ·rw [if_neg c4] at H
     exact absurd H (by simp)
   ·rw [if_neg c3] at H
    have c3b0 : decide (x4_1 < 64) = false := decide_eq_false c3
    clear c3
    have H' := bA H
    clear H
    go_wp2
    go_loopg [3, 5] k1 (fun kq v3 v5 w' => ∃ (x3_2 : List Int) (x5_2 : Int), v5 = .int .i64 x5_2 ∧ Aside0 (apogeeref01_bits.l1 kq x3_2 x5_2 a0_0 a0_1 = some r) ∧ Aside0 (kq ≤ k1) ∧ Aside0 (Kd.R (Kd.int .i64) 3 w' w.heap.size (fun _ => True) v3 x3_2) ∧ Aside0 (w'.heap[gb295]? = some (.cells #[.int .i64 a0_0, .int .u64 a0_1] 66 (0, 0))) ∧ Aside0 (Below w.heap.size w w'))
    case atStart => exact ⟨(x3_1), (0), (by first | rfl | (simp; done) | (simp [*]; done)), H', ⟨Nat.le_refl _⟩, ⟨by (with_reducible repeat (first | apply Kd.R_alloc | apply Kd.R_drewN | apply Kd.R_drew)); exact HO_3.out⟩, ⟨by (with_reducible repeat (first | refine blk_drewN ?_ _ | refine blk_drew ?_ | refine blk_alloc ?_ _)); exact BK295.out⟩, ⟨bX⟩⟩
    case round =>
     clear H'
     try clear p2
     try clear c3
     try clear c3b0
     try clear c4
     try clear c4b0
     try clear c4b1
     try clear c6
     try clear p6
     try clear c7
     try clear hcz7_0
     try clear hcz7_1
     try clear hfz7_0
     try clear hfz7_1
     try clear p2
     obtain ⟨x3_2, x5_2, rfl, HA, HK2, HO_3, BK295, HB⟩ := hrel
     cases gk with
     | zero => exact absurd HA.out (by simp [apogeeref01_bits.l1])
     | succ k2 =>
      have H := HA.out
      clear HA
      simp only [apogeeref01_bits.l1] at H
      by_cases c9 : x5_2 < 64
      rw [if_pos c9] at H
      have c9b0 : decide (x5_2 < 64) = true := decide_eq_true c9
      clear c9
      by_cases c10 : 0 ≤ x5_2
      rw [if_pos c10] at H
      have c10b0 := eq_true c10
      have c10b1 : decide (0 ≤ x5_2) = true := decide_eq_true c10
      clear c10
      obtain ⟨ji11, hji11⟩ : ∃ j_ : Int, (shr .u64 (IntKind.u64.wrap (a0_0)) x5_2) = j_ := ⟨_, rfl⟩
      replace H : (if x3_2.length < 17592186044416 then (apogeeref01_bits.l1 k2 (x3_2 ++ [wrap64 (Go.bits .and .u64 (ji11) 1)]) (wrap64 (x5_2 + 1)) a0_0 a0_1) else (none)) = some r := by first | (rw [hji11] at H; exact H) | (simp only [hji11] at H ⊢; exact H)
      have hji11_ : ((IntKind.u64.wrap (a0_0)) / 2 ^ min x5_2.toNat 64) = ji11 := hji11
      have hji11z : x5_2 ≤ 64 → ((IntKind.u64.wrap (a0_0)) / 2 ^ x5_2.toNat) = ji11 := shr_small hji11
      by_cases c12 : x3_2.length < 17592186044416
      rw [if_pos c12] at H
      have LMc12 := bA c12
      clear c12
      obtain ⟨y299, hy299⟩ : ∃ y_ : List Int, y_ = (x3_2 ++ [wrap64 (Go.bits .and .u64 (ji11) 1)]) := ⟨_, rfl⟩
      replace H : (apogeeref01_bits.l1 k2 y299 (wrap64 (x5_2 + 1)) a0_0 a0_1) = some r := by first | (rw [hy299]; with_reducible exact H) | (have H2_ := (Option.bind_some _ _).symm.trans H; rw [hy299]; with_reducible exact H2_) | (have H2_ := (Option.bind_some _ _).symm.trans H; with_reducible exact H2_) | with_reducible exact H | (rw [hy299]; exact H) | exact H
      have Ny299 := bA hy299
      clear hy299
      have H' := bA H
      clear H
      have hcz13_0 : wr.cell? ⟨gb295, 0, none⟩ = some (.int .i64 a0_0) := (blk_cell BK295.out 0).trans rfl
      have hcz13_1 : wr.cell? ⟨gb295, 1, none⟩ = some (.int .u64 a0_1) := (blk_cell BK295.out 1).trans rfl
      have hfz13_0 := blk_frozen BK295.out 0
      have hfz13_1 := blk_frozen BK295.out 1
      rotate_left
      rw [if_neg c12] at H
      exact absurd H (by simp)
      rw [if_neg c10] at H
      exact absurd H (by simp)
      rw [if_neg c9] at H
      have c9b0 : decide (x5_2 < 64) = false := decide_eq_false c9
      clear c9
      obtain rfl := Option.some.inj H
      rotate_left
      all_goals go_wp2_with (first | ((with_reducible refine gate_builtin (b := .append) (xs := #[.tmp 23, .tmp 31]) rfl ?_); at_builtin; refine Kd.R_append (Kd.int .i64) (w0 := w) w.heap.size rfl (.tmp 23) (.tmp 31) 94 3 (.int .i64 0) 8 rfl Try.underlying94 info3 rfl (by decide) (by omega) u3 x3_2 (wrap64 (Go.bits .and .u64 (ji11) 1)) [.int .i64 (wrap64 (Go.bits .and .u64 (ji11) 1))] (fun _ => True) (fun _ => False) rfl rfl ?aP (fun _ hk => hk.elim) ?aF ?aO ?aB ?aS ?aL ?_; (case aP => exact rfl); (case aB => exact bX); (case aF => exact (fun _ _ => trivial)); (case aO => exact (by (with_reducible repeat (first | apply Kd.R_alloc | apply Kd.R_drewN | apply Kd.R_drew)); exact HO_3.out)); (case aS => exact bY); (case aL => have := LMc12.out; omega); intro v300 wz0 ho hb hg hat; rw [← Ny299.out] at ho; have n0_ := bA (blk_grown (g := gb295) (o := .cells #[.int .i64 a0_0, .int .u64 a0_1] 66 (0, 0)) (by (with_reducible repeat (first | refine blk_drewN ?_ _ | refine blk_drew ?_ | refine blk_alloc ?_ _)); exact BK295.out) hg (Kd.R_ne HO_3.out BK295.out (by decide))); have n1_ := bA (hb); have n2_ := bA (ho); clear BK295; clear HB; clear HO_3; have BK295 := n0_; have HB := n1_; have HO301 := n2_; clear n0_ n1_ n2_; clear ho hb hg hat))
      ·go_roundg k2
       case measure => have := HK1.out; have := HK2.out; omega
       case rel => exact ⟨(y299), (wrap64 (x5_2 + 1)), (by first | rfl | (simp; done) | (simp [*]; done)), H', ⟨by have := HK1.out; have := HK2.out; omega⟩, ⟨by (with_reducible repeat (first | apply Kd.R_alloc | apply Kd.R_drewN | apply Kd.R_drew)); exact HO301.out⟩, ⟨by (with_reducible repeat (first | refine blk_drewN ?_ _ | refine blk_drew ?_ | refine blk_alloc ?_ _)); exact BK295.out⟩, ⟨bX⟩⟩
      ·go_ret
       exact ⟨_, by first | rfl | (simp [errW_none, errW_some] <;> rfl) | (simp [*, errW_none, errW_some] <;> rfl), by (with_reducible repeat (first | apply Kd.R_alloc | apply Kd.R_drewN | apply Kd.R_drew)); exact HO_3.out, by repeat (first | (with_reducible first | exact HB.out | apply below_alloc | apply pw_below_drewN | apply below_drew1 | refine below_set ?_ GE295.out) | exact HB.out)⟩
end Go.Proofs.Ytlifeghjcgbfnaa.G
