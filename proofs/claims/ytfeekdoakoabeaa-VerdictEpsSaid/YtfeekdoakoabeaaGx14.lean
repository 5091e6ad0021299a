-- Written by a program of this session out of the translation; Lean checks it.
import Derived.Test.YtfeekdoakoabeaaGx0
import Derived.Test.YtfeekdoakoabeaaGx6
import Derived.Test.YtfeekdoakoabeaaGx8
import Derived.Test.YtfeekdoakoabeaaGx10
import Derived.Test.YtfeekdoakoabeaaGx13
namespace Go.Proofs.Ytfeekdoakoabeaa.G
open Go.RowKit Go.Proofs.YtfeekdoakoabeaaW.PrintWords Go.Proofs.YtfeekdoakoabeaaW.PrintLast Go.Proofs.YtfeekdoakoabeaaW.PrintMore
attribute [local go_sem] max2_int min2_int max_two min_two max_three min_three max_four min_four   -- for this text's walks alone
set_option linter.unusedVariables false
set_option linter.unusedSimpArgs false

/-! ### poly_Side: function 61 -/
mutual
def poly_Side.j0 : Nat → List (S28) → Bool → Int → Int → Option (Int)
 | 0, _, _, _, _ => none
 | k + 1, x0, x16, x329000, x329001 => if x16 = true then (some (-1)) else (poly_Side.l0 k x0 (-1) (x0.length : Int) 0 x329000 x329001)
def poly_Side.l0 : Nat → List (S28) → Int → Int → Int → Int → Int → Option (Int)
 | 0, _, _, _, _, _, _ => none
 | k + 1, x0, x5, x18, x19, x329000, x329001 => if x19 < x18 then ((poly_edge.f x0 x19).bind fun bt331 => ((point_On.f k x329000 x329001 bt331.1 bt331.2.1 bt331.2.2.1 bt331.2.2.2).bind fun t337 => (if t337 = true then (some 0) else (if bt331.2.1 > bt331.2.2.2 then (if bt331.2.2.2 ≤ x329001 then (if x329001 < bt331.2.1 then ((point_Turn.f k bt331.2.2.1 bt331.2.2.2 bt331.1 bt331.2.1 x329000 x329001).bind fun t338 => (if t338 > 0 then (poly_Side.l0 k x0 (wrap64 (-x5)) x18 (wrap64 (x19 + 1)) x329000 x329001) else (poly_Side.l0 k x0 x5 x18 (wrap64 (x19 + 1)) x329000 x329001))) else (poly_Side.l0 k x0 x5 x18 (wrap64 (x19 + 1)) x329000 x329001)) else (poly_Side.l0 k x0 x5 x18 (wrap64 (x19 + 1)) x329000 x329001)) else (if bt331.2.1 ≤ x329001 then (if x329001 < bt331.2.2.2 then ((point_Turn.f k bt331.1 bt331.2.1 bt331.2.2.1 bt331.2.2.2 x329000 x329001).bind fun t339 => (if t339 > 0 then (poly_Side.l0 k x0 (wrap64 (-x5)) x18 (wrap64 (x19 + 1)) x329000 x329001) else (poly_Side.l0 k x0 x5 x18 (wrap64 (x19 + 1)) x329000 x329001))) else (poly_Side.l0 k x0 x5 x18 (wrap64 (x19 + 1)) x329000 x329001)) else (poly_Side.l0 k x0 x5 x18 (wrap64 (x19 + 1)) x329000 x329001)))))) else (some x5)
end
def poly_Side.f (k : Nat) (l0 : List (S28)) (a1_0 : Int) (a1_1 : Int) : Option (Int) := (poly_Right.f k l0).bind fun t329 => (if t329 = true then ((point_Right.f a1_0 a1_1).bind fun t330 => (poly_Side.j0 k l0 (!t330) a1_0 a1_1)) else (poly_Side.j0 k l0 true a1_0 a1_1))
theorem poly_Side.mono_l : ∀ k, (∀ y0 y1 y2 y3, LeO (poly_Side.j0 k y0 y1 y2 y3) (poly_Side.j0 (k + 1) y0 y1 y2 y3)) ∧ (∀ y0 y1 y2 y3 y4 y5, LeO (poly_Side.l0 k y0 y1 y2 y3 y4 y5) (poly_Side.l0 (k + 1) y0 y1 y2 y3 y4 y5))
 | 0 => ⟨fun _ _ _ _ r h => by simp [poly_Side.j0] at h, fun _ _ _ _ _ _ r h => by simp [poly_Side.l0] at h⟩
 | k + 1 => by
  obtain ⟨ih0, ih1⟩ := poly_Side.mono_l k
  refine ⟨?_, ?_⟩
  ·intro y0 y1 y2 y3
   unfold poly_Side.j0
   have m0_ := @point_On.mono
   have m1_ := @point_Turn.mono
   have m2_ := @poly_Right.mono
   exact bMo
  ·intro y0 y1 y2 y3 y4 y5
   unfold poly_Side.l0
   have m0_ := @point_On.mono
   have m1_ := @point_Turn.mono
   have m2_ := @poly_Right.mono
   exact bMo
theorem poly_Side.mono : ∀ a0 a1 a2 k, LeO (poly_Side.f k a0 a1 a2) (poly_Side.f (k + 1) a0 a1 a2) := by
 intro a0 a1 a2 k
 obtain ⟨ih0, ih1⟩ := poly_Side.mono_l k
 unfold poly_Side.f
 have m0_ := @point_On.mono
 have m1_ := @point_Turn.mono
 have m2_ := @poly_Right.mono
 exact bMo
set_option maxHeartbeats 8000000 in
set_option maxRecDepth 100000 in
theorem poly_Side.calls (k : Nat) (A0 : Option Addr) (c0 : Nat) (l0 : List (S28)) (a1_0 : Int) (a1_1 : Int) (r : Int) (w : World) (hr0 : Kd.C k28 w A0 l0.length l0) (hc0 : l0.length ≤ c0) (h : poly_Side.f k l0 a1_0 a1_1 = some r) :
  Calls Try.prog 61 #[.slice A0 l0.length c0, .agg #[.int .i64 a1_0, .int .i64 a1_1]] w fun e w' => e = .returned (.int .i64 r) ∧ Below w.heap.size w w' := by
 have hu28 := Try.underlying28
 have HR0 := bA hr0
 have HC0 := bA hc0
 clear hr0 hc0
 have HB := bA (Below.refl w.heap.size w)
 have H : ((poly_Right.f k l0).bind fun t329 => (if t329 = true then ((point_Right.f a1_0 a1_1).bind fun t330 => (poly_Side.j0 k l0 (!t330) a1_0 a1_1)) else (poly_Side.j0 k l0 true a1_0 a1_1))) = some r := h
 clear h
 have HC3 := bA H
 clear H
 go_enter Try.func61, Try.ntmps61
 go_upto_region 1 with (first | ((with_reducible refine gate_dst (N := 3) rfl ?_); refine bE (N := 3) (cs := #[.int .i64 a1_0, .int .i64 a1_1]) (t := 28) ?_; intro gb328 hg w4 hbox hb; have n0_ := bA (bS hb); have n1_ := bA (hbox); have n2_ := bA (bZ hg); have n3_ := bA (bZ hg); clear HB; have HB := n0_; have BK328 := n1_; have GW328 := n2_; have GE328 := n3_; clear n0_ n1_ n2_ n3_; clear hb hbox hg))
 (try simp only [Act.put, List.setIfInBounds_toArray, List.set_cons_zero, List.set_cons_succ])
 go_cut [16] (fun v16 wc => ∃ (kq : Nat) (x16_2 : Bool), v16 = .bool x16_2 ∧ Aside0 (poly_Side.j0 kq l0 x16_2 a1_0 a1_1 = some r) ∧ Aside0 (kq ≤ k) ∧ Aside0 (wc.heap[gb328]? = some (.cells #[.int .i64 a1_0, .int .i64 a1_1] 28 (0, 0))) ∧ Aside0 (Below w.heap.size w wc))
 case first =>
  have H := HC3.out
  clear HC3
  replace H := Option.bind_eq_some_iff.mp H
  obtain ⟨t329, A50, H⟩ := H
  have A5 := bA A50
  clear A50
  by_cases c6 : t329 = true
  subst c6
  rw [if_pos rfl] at H
  replace H := Option.bind_eq_some_iff.mp H
  obtain ⟨t330, A70, H⟩ := H
  have A7 := bA A70
  clear A70
  have H' := bA H
  clear H
  rotate_left
  replace c6 := Bool.eq_false_iff.mpr c6
  subst c6
  rw [if_neg bn] at H
  have H' := bA H
  clear H
  rotate_left
  all_goals go_wp2_with (first | ((first | ((with_reducible refine gate_callee (f := 59) rfl ?_); refine bC (some 10) Try.func59 #[.slice A0 l0.length c0] ?_) | go_at_call 59); (with_reducible refine (poly_Right.calls k _ _ l0 true _ ?side1 ?side2 A5.out).mono ?_); (case side1 => exact bQ HR0); (case side2 => exact HC0.out); rintro e wz0 ⟨rfl, hb⟩; (first | refine ⟨_, rfl, ?_⟩ | skip); replace BK328 := bA (bB BK328 hb); replace HB := bA (bS hb); (try clear hb); obtain ⟨hz1, hz2, hz3, hz4⟩ := bc2 BK328) | (go_at_call 40; (with_reducible refine (point_Right.calls a1_0 a1_1 t330 _ A7.out).mono ?_); rintro e wz1 ⟨rfl, hb⟩; replace BK328 := bA (bB BK328 hb); replace HB := bA (bS hb); (try clear hb)) | ((first | ((with_reducible refine gate_callee (f := 59) rfl ?_); refine bC (some 10) Try.func59 #[.slice A0 l0.length c0] ?_) | go_at_call 59); (with_reducible refine (poly_Right.calls k _ _ l0 false _ ?side1 ?side2 A5.out).mono ?_); (case side1 => exact bQ HR0); (case side2 => exact HC0.out); rintro e wz0 ⟨rfl, hb⟩; (first | refine ⟨_, rfl, ?_⟩ | skip); replace BK328 := bA (bB BK328 hb); replace HB := bA (bS hb); (try clear hb)))
  ·go_meet
   case rel => exact ⟨_, (!t330), bs, H', ⟨by first | omega | exact Nat.le_refl _⟩, ⟨by (with_reducible repeat (first | refine blk_drewN ?_ _ | refine blk_drew ?_ | refine blk_alloc ?_ _)); exact BK328.out⟩, ⟨bX⟩⟩
  go_meet
  case rel => exact ⟨_, (true), bs, H', ⟨by first | omega | exact Nat.le_refl _⟩, ⟨by (with_reducible repeat (first | refine blk_drewN ?_ _ | refine blk_drew ?_ | refine blk_alloc ?_ _)); exact BK328.out⟩, ⟨bX⟩⟩
 clear HC3
 try clear p2
 try clear c5
 try clear c6
 try clear hcz9_0
 try clear hcz9_1
 try clear hfz9_0
 try clear hfz9_1
 obtain ⟨kq, x16_2, rfl, HA, HJ2, BK328, HB⟩ := hcut
 cases kq with
 | zero => exact absurd HA.out (by simp [poly_Side.j0])
 | succ kj2 =>
  have H := HA.out
  clear HA
  simp only [poly_Side.j0] at H
  by_cases c12 : x16_2 = true
  ·subst c12
   rw [if_pos rfl] at H
   obtain rfl := Option.some.inj H
   go_wp2
   go_ret
   exact bF
  replace c12 := Bool.eq_false_iff.mpr c12
  subst c12
  rw [if_neg bn] at H
  have H' := bA H
  clear H
  go_wp2
  go_loopg [5, 19] kj2 (fun kq v5 v19 w' => ∃ (x5_2 : Int) (x19_2 : Int), v5 = .int .i64 x5_2 ∧ v19 = .int .i64 x19_2 ∧ Aside0 (poly_Side.l0 kq l0 x5_2 (l0.length : Int) x19_2 a1_0 a1_1 = some r) ∧ Aside0 (kq ≤ kj2) ∧ Aside0 (w'.heap[gb328]? = some (.cells #[.int .i64 a1_0, .int .i64 a1_1] 28 (0, 0))) ∧ Aside0 (Below w.heap.size w w'))
  case atStart => exact ⟨((-1)), (0), bs, bs, H', ⟨Nat.le_refl _⟩, ⟨by (with_reducible repeat (first | refine blk_drewN ?_ _ | refine blk_drew ?_ | refine blk_alloc ?_ _)); exact BK328.out⟩, ⟨bX⟩⟩
  clear H'
  try clear c1
  try clear p2
  try clear c5
  try clear c6
  try clear c12
  try clear hcz9_0
  try clear hcz9_1
  try clear hfz9_0
  try clear hfz9_1
  try clear p2
  obtain ⟨x5_2, x19_2, rfl, rfl, HA, HK2, BK328, HB⟩ := hrel
  cases gk with
  | zero => exact absurd HA.out (by simp [poly_Side.l0])
  | succ k2 =>
   have H := HA.out
   clear HA
   simp only [poly_Side.l0] at H
   by_cases c13 : x19_2 < (l0.length : Int)
   rw [if_pos c13] at H
   have c13b0 : decide (x19_2 < (l0.length : Int)) = true := decide_eq_true c13
   clear c13
   replace H := Option.bind_eq_some_iff.mp H
   obtain ⟨⟨t331, t332, t333, t334⟩, A140, H⟩ := H
   replace H : ((point_On.f k2 a1_0 a1_1 t331 t332 t333 t334).bind fun t337 => (if t337 = true then (some 0) else (if t332 > t334 then (if t334 ≤ a1_1 then (if a1_1 < t332 then ((point_Turn.f k2 t333 t334 t331 t332 a1_0 a1_1).bind fun t338 => (if t338 > 0 then (poly_Side.l0 k2 l0 (wrap64 (-x5_2)) (l0.length : Int) (wrap64 (x19_2 + 1)) a1_0 a1_1) else (poly_Side.l0 k2 l0 x5_2 (l0.length : Int) (wrap64 (x19_2 + 1)) a1_0 a1_1))) else (poly_Side.l0 k2 l0 x5_2 (l0.length : Int) (wrap64 (x19_2 + 1)) a1_0 a1_1)) else (poly_Side.l0 k2 l0 x5_2 (l0.length : Int) (wrap64 (x19_2 + 1)) a1_0 a1_1)) else (if t332 ≤ a1_1 then (if a1_1 < t334 then ((point_Turn.f k2 t331 t332 t333 t334 a1_0 a1_1).bind fun t339 => (if t339 > 0 then (poly_Side.l0 k2 l0 (wrap64 (-x5_2)) (l0.length : Int) (wrap64 (x19_2 + 1)) a1_0 a1_1) else (poly_Side.l0 k2 l0 x5_2 (l0.length : Int) (wrap64 (x19_2 + 1)) a1_0 a1_1))) else (poly_Side.l0 k2 l0 x5_2 (l0.length : Int) (wrap64 (x19_2 + 1)) a1_0 a1_1)) else (poly_Side.l0 k2 l0 x5_2 (l0.length : Int) (wrap64 (x19_2 + 1)) a1_0 a1_1))))) = some r := H
   have A14 := bA A140
   clear A140
   replace H := Option.bind_eq_some_iff.mp H
   obtain ⟨t337, A150, H⟩ := H
   have A15 := bA A150
   clear A150
   by_cases c16 : t337 = true
   subst c16
   rw [if_pos rfl] at H
   obtain rfl := Option.some.inj H
   rotate_left
   replace c16 := Bool.eq_false_iff.mpr c16
   subst c16
   rw [if_neg bn] at H
   by_cases c27 : t332 > t334
   rw [if_pos c27] at H
   have c27b0 : decide (t334 < t332) = true := decide_eq_true c27
   clear c27
   by_cases c28 : t334 ≤ a1_1
   rw [if_pos c28] at H
   have c28b0 : decide (t334 ≤ a1_1) = true := decide_eq_true c28
   clear c28
   by_cases c29 : a1_1 < t332
   rw [if_pos c29] at H
   have c29b0 : decide (a1_1 < t332) = true := decide_eq_true c29
   clear c29
   replace H := Option.bind_eq_some_iff.mp H
   obtain ⟨t338, A300, H⟩ := H
   have A30 := bA A300
   clear A300
   by_cases c31 : t338 > 0
   rw [if_pos c31] at H
   have c31b0 : decide (0 < t338) = true := decide_eq_true c31
   clear c31
   have H' := bA H
   clear H
   rotate_left
   rw [if_neg c31] at H
   have c31b0 : decide (0 < t338) = false := decide_eq_false c31
   clear c31
   have H' := bA H
   clear H
   rotate_left
   rw [if_neg c29] at H
   have c29b0 : decide (a1_1 < t332) = false := decide_eq_false c29
   clear c29
   have H' := bA H
   clear H
   rotate_left
   rw [if_neg c28] at H
   have c28b0 : decide (t334 ≤ a1_1) = false := decide_eq_false c28
   clear c28
   have H' := bA H
   clear H
   rotate_left
   rw [if_neg c27] at H
   have c27b0 : decide (t334 < t332) = false := decide_eq_false c27
   clear c27
   by_cases c86 : t332 ≤ a1_1
   rw [if_pos c86] at H
   have c86b0 : decide (t332 ≤ a1_1) = true := decide_eq_true c86
   clear c86
   by_cases c87 : a1_1 < t334
   rw [if_pos c87] at H
   have c87b0 : decide (a1_1 < t334) = true := decide_eq_true c87
   clear c87
   replace H := Option.bind_eq_some_iff.mp H
   obtain ⟨t339, A880, H⟩ := H
   have A88 := bA A880
   clear A880
   by_cases c89 : t339 > 0
   rw [if_pos c89] at H
   have c89b0 : decide (0 < t339) = true := decide_eq_true c89
   clear c89
   have H' := bA H
   clear H
   rotate_left
   rw [if_neg c89] at H
   have c89b0 : decide (0 < t339) = false := decide_eq_false c89
   clear c89
   have H' := bA H
   clear H
   rotate_left
   rw [if_neg c87] at H
   have c87b0 : decide (a1_1 < t334) = false := decide_eq_false c87
   clear c87
   have H' := bA H
   clear H
   rotate_left
   rw [if_neg c86] at H
   have c86b0 : decide (t332 ≤ a1_1) = false := decide_eq_false c86
   clear c86
   have H' := bA H
   clear H
   rotate_left
   rw [if_neg c13] at H
   have c13b0 : decide (x19_2 < (l0.length : Int)) = false := decide_eq_false c13
   clear c13
   obtain rfl := Option.some.inj H
   rotate_left
   all_goals go_wp2_with (first | ((first | ((with_reducible refine gate_callee (f := 76) rfl ?_); refine bC (some 25) Try.func76 #[.slice A0 l0.length c0, .int .i64 x19_2] ?_) | go_at_call 76); (with_reducible refine (poly_edge.calls _ _ l0 x19_2 t331 t332 t333 t334 _ ?side1 ?side2 A14.out).mono ?_); (case side1 => exact bQ HR0); (case side2 => exact HC0.out); rintro e wz0 ⟨rfl, hb⟩; (first | refine ⟨_, rfl, ?_⟩ | skip); replace BK328 := bA (bB BK328 hb); replace HB := bA (bS hb); (try clear hb)) | ((with_reducible refine gate_dst (N := 7) rfl ?_); refine bE (N := 7) (cs := #[.int .i64 0, .int .i64 0]) (t := 28) ?_; intro gb335 hg wz1 hbox hb; have BK335 := bA (hbox); have GW335 := bA (bZ hg); have GE335 := bA (bZ hg); have NB328_335 := bA (bL BK328 hg); have NB335_328 := bA (bG BK328 hg); replace BK328 := bA (bB BK328 hb); replace HB := bA (bS hb); clear hb hbox hg) | ((with_reducible refine gate_dst (N := 8) rfl ?_); refine bE (N := 8) (cs := #[.int .i64 0, .int .i64 0]) (t := 28) ?_; intro gb336 hg wz2 hbox hb; have BK336 := bA (hbox); have GW336 := bA (bZ hg); have GE336 := bA (bZ hg); have NB328_336 := bA (bL BK328 hg); have NB336_328 := bA (bG BK328 hg); have NB335_336 := bA (bL BK335 hg); have NB336_335 := bA (bG BK335 hg); replace BK328 := bA (bB BK328 hb); replace BK335 := bA (bB BK335 hb); replace HB := bA (bS hb); clear hb hbox hg; have hz1 := NB335_328.out; have hz2 := NB328_335.out; have hz3 := NB335_336.out; have hz4 := NB336_335.out; obtain ⟨hz5, hz6, hz7, hz8⟩ := bc2 BK335; have hz9 := NB336_328.out; have hz10 := NB328_336.out; obtain ⟨hz11, hz12, hz13, hz14⟩ := bc2 BK336; obtain ⟨hz15, hz16, hz17, hz18⟩ := bc2 BK328) | ((first | ((with_reducible refine gate_callee (f := 77) rfl ?_); refine bC (some 31) Try.func77 #[.agg #[.int .i64 a1_0, .int .i64 a1_1], .agg #[.int .i64 t331, .int .i64 t332], .agg #[.int .i64 t333, .int .i64 t334]] ?_) | go_at_call 77); (with_reducible refine (point_On.calls k2 a1_0 a1_1 t331 t332 t333 t334 true _ A15.out).mono ?_); rintro e wz3 ⟨rfl, hb⟩; (first | refine ⟨_, rfl, ?_⟩ | skip); replace BK328 := bA (blk_below (g := gb328) (o := .cells #[.int .i64 a1_0, .int .i64 a1_1] 28 (0, 0)) (by (repeat ((with_reducible repeat (first | refine blk_drewN ?_ _ | refine blk_drew ?_ | refine blk_alloc ?_ _)); refine blk_far ?_ NB328_336.out _)); (repeat ((with_reducible repeat (first | refine blk_drewN ?_ _ | refine blk_drew ?_ | refine blk_alloc ?_ _)); refine blk_far ?_ NB328_335.out _)); (with_reducible repeat (first | refine blk_drewN ?_ _ | refine blk_drew ?_ | refine blk_alloc ?_ _)); exact BK328.out) hb); replace BK335 := bA (blk_below (g := gb335) (o := .cells #[.int .i64 t331, .int .i64 t332] 28 (0, 0)) (by (repeat ((with_reducible repeat (first | refine blk_drewN ?_ _ | refine blk_drew ?_ | refine blk_alloc ?_ _)); refine blk_far ?_ NB335_336.out _)); (with_reducible repeat (first | refine blk_drewN ?_ _ | refine blk_drew ?_ | refine blk_alloc ?_ _)); refine blk_put (cs := #[.int .i64 t331, .int .i64 0]) ?_ 1 _ rfl; (with_reducible repeat (first | refine blk_drewN ?_ _ | refine blk_drew ?_ | refine blk_alloc ?_ _)); refine blk_put (cs := #[.int .i64 0, .int .i64 0]) ?_ 0 _ rfl; (with_reducible repeat (first | refine blk_drewN ?_ _ | refine blk_drew ?_ | refine blk_alloc ?_ _)); exact BK335.out) hb); replace BK336 := bA (blk_below (g := gb336) (o := .cells #[.int .i64 t333, .int .i64 t334] 28 (0, 0)) (by (with_reducible repeat (first | refine blk_drewN ?_ _ | refine blk_drew ?_ | refine blk_alloc ?_ _)); refine blk_put (cs := #[.int .i64 t333, .int .i64 0]) ?_ 1 _ rfl; (with_reducible repeat (first | refine blk_drewN ?_ _ | refine blk_drew ?_ | refine blk_alloc ?_ _)); refine blk_put (cs := #[.int .i64 0, .int .i64 0]) ?_ 0 _ rfl; (repeat ((with_reducible repeat (first | refine blk_drewN ?_ _ | refine blk_drew ?_ | refine blk_alloc ?_ _)); refine blk_far ?_ NB336_335.out _)); (with_reducible repeat (first | refine blk_drewN ?_ _ | refine blk_drew ?_ | refine blk_alloc ?_ _)); exact BK336.out) hb); replace HB := bA (bS hb); (try clear hb)) | ((first | ((with_reducible refine gate_callee (f := 77) rfl ?_); refine bC (some 31) Try.func77 #[.agg #[.int .i64 a1_0, .int .i64 a1_1], .agg #[.int .i64 t331, .int .i64 t332], .agg #[.int .i64 t333, .int .i64 t334]] ?_) | go_at_call 77); (with_reducible refine (point_On.calls k2 a1_0 a1_1 t331 t332 t333 t334 false _ A15.out).mono ?_); rintro e wz3 ⟨rfl, hb⟩; (first | refine ⟨_, rfl, ?_⟩ | skip); replace BK328 := bA (blk_below (g := gb328) (o := .cells #[.int .i64 a1_0, .int .i64 a1_1] 28 (0, 0)) (by (repeat ((with_reducible repeat (first | refine blk_drewN ?_ _ | refine blk_drew ?_ | refine blk_alloc ?_ _)); refine blk_far ?_ NB328_336.out _)); (repeat ((with_reducible repeat (first | refine blk_drewN ?_ _ | refine blk_drew ?_ | refine blk_alloc ?_ _)); refine blk_far ?_ NB328_335.out _)); (with_reducible repeat (first | refine blk_drewN ?_ _ | refine blk_drew ?_ | refine blk_alloc ?_ _)); exact BK328.out) hb); replace BK335 := bA (blk_below (g := gb335) (o := .cells #[.int .i64 t331, .int .i64 t332] 28 (0, 0)) (by (repeat ((with_reducible repeat (first | refine blk_drewN ?_ _ | refine blk_drew ?_ | refine blk_alloc ?_ _)); refine blk_far ?_ NB335_336.out _)); (with_reducible repeat (first | refine blk_drewN ?_ _ | refine blk_drew ?_ | refine blk_alloc ?_ _)); refine blk_put (cs := #[.int .i64 t331, .int .i64 0]) ?_ 1 _ rfl; (with_reducible repeat (first | refine blk_drewN ?_ _ | refine blk_drew ?_ | refine blk_alloc ?_ _)); refine blk_put (cs := #[.int .i64 0, .int .i64 0]) ?_ 0 _ rfl; (with_reducible repeat (first | refine blk_drewN ?_ _ | refine blk_drew ?_ | refine blk_alloc ?_ _)); exact BK335.out) hb); replace BK336 := bA (blk_below (g := gb336) (o := .cells #[.int .i64 t333, .int .i64 t334] 28 (0, 0)) (by (with_reducible repeat (first | refine blk_drewN ?_ _ | refine blk_drew ?_ | refine blk_alloc ?_ _)); refine blk_put (cs := #[.int .i64 t333, .int .i64 0]) ?_ 1 _ rfl; (with_reducible repeat (first | refine blk_drewN ?_ _ | refine blk_drew ?_ | refine blk_alloc ?_ _)); refine blk_put (cs := #[.int .i64 0, .int .i64 0]) ?_ 0 _ rfl; (repeat ((with_reducible repeat (first | refine blk_drewN ?_ _ | refine blk_drew ?_ | refine blk_alloc ?_ _)); refine blk_far ?_ NB336_335.out _)); (with_reducible repeat (first | refine blk_drewN ?_ _ | refine blk_drew ?_ | refine blk_alloc ?_ _)); exact BK336.out) hb); replace HB := bA (bS hb); (try clear hb); obtain ⟨hz19, hz20, hz7, hz8⟩ := bc2 BK335; obtain ⟨hz21, hz22, hz13, hz14⟩ := bc2 BK336; obtain ⟨hz23, hz24, hz17, hz18⟩ := bc2 BK328) | (go_at_call 73; (with_reducible refine (point_Turn.calls k2 t333 t334 t331 t332 a1_0 a1_1 t338 _ A30.out).mono ?_); rintro e wz4 ⟨rfl, hb⟩; replace BK328 := bA (blk_below (g := gb328) (o := .cells #[.int .i64 a1_0, .int .i64 a1_1] 28 (0, 0)) (by (repeat ((with_reducible repeat (first | refine blk_drewN ?_ _ | refine blk_drew ?_ | refine blk_alloc ?_ _)); refine blk_far ?_ NB328_336.out _)); (repeat ((with_reducible repeat (first | refine blk_drewN ?_ _ | refine blk_drew ?_ | refine blk_alloc ?_ _)); refine blk_far ?_ NB328_335.out _)); (with_reducible repeat (first | refine blk_drewN ?_ _ | refine blk_drew ?_ | refine blk_alloc ?_ _)); exact BK328.out) hb); replace BK335 := bA (blk_below (g := gb335) (o := .cells #[.int .i64 t333, .int .i64 t334] 28 (0, 0)) (by (repeat ((with_reducible repeat (first | refine blk_drewN ?_ _ | refine blk_drew ?_ | refine blk_alloc ?_ _)); refine blk_far ?_ NB335_336.out _)); (with_reducible repeat (first | refine blk_drewN ?_ _ | refine blk_drew ?_ | refine blk_alloc ?_ _)); refine blk_put (cs := #[.int .i64 t333, .int .i64 t332]) ?_ 1 _ rfl; (with_reducible repeat (first | refine blk_drewN ?_ _ | refine blk_drew ?_ | refine blk_alloc ?_ _)); refine blk_put (cs := #[.int .i64 t331, .int .i64 t332]) ?_ 0 _ rfl; (with_reducible repeat (first | refine blk_drewN ?_ _ | refine blk_drew ?_ | refine blk_alloc ?_ _)); exact BK335.out) hb); replace BK336 := bA (blk_below (g := gb336) (o := .cells #[.int .i64 t331, .int .i64 t332] 28 (0, 0)) (by (with_reducible repeat (first | refine blk_drewN ?_ _ | refine blk_drew ?_ | refine blk_alloc ?_ _)); refine blk_put (cs := #[.int .i64 t331, .int .i64 t334]) ?_ 1 _ rfl; (with_reducible repeat (first | refine blk_drewN ?_ _ | refine blk_drew ?_ | refine blk_alloc ?_ _)); refine blk_put (cs := #[.int .i64 t333, .int .i64 t334]) ?_ 0 _ rfl; (repeat ((with_reducible repeat (first | refine blk_drewN ?_ _ | refine blk_drew ?_ | refine blk_alloc ?_ _)); refine blk_far ?_ NB336_335.out _)); (with_reducible repeat (first | refine blk_drewN ?_ _ | refine blk_drew ?_ | refine blk_alloc ?_ _)); exact BK336.out) hb); replace HB := bA (bS hb); (try clear hb)) | (go_at_call 73; (with_reducible refine (point_Turn.calls k2 t331 t332 t333 t334 a1_0 a1_1 t339 _ A88.out).mono ?_); rintro e wz4 ⟨rfl, hb⟩; replace BK328 := bA (bB BK328 hb); replace BK335 := bA (bB BK335 hb); replace BK336 := bA (bB BK336 hb); replace HB := bA (bS hb); (try clear hb)))
   ·go_ret
    exact bF
   ·go_roundg k2
    case measure => have := HJ2.out; have := HK2.out; omega
    case rel => exact ⟨(wrap64 (-x5_2)), (wrap64 (x19_2 + 1)), bs, bs, H', ⟨by have := HJ2.out; have := HK2.out; omega⟩, ⟨by (with_reducible repeat (first | refine blk_drewN ?_ _ | refine blk_drew ?_ | refine blk_alloc ?_ _)); exact BK328.out⟩, ⟨bX⟩⟩
   ·go_roundg k2
    case measure => have := HJ2.out; have := HK2.out; omega
    case rel => exact ⟨(x5_2), (wrap64 (x19_2 + 1)), bs, bs, H', ⟨by have := HJ2.out; have := HK2.out; omega⟩, ⟨by (with_reducible repeat (first | refine blk_drewN ?_ _ | refine blk_drew ?_ | refine blk_alloc ?_ _)); exact BK328.out⟩, ⟨bX⟩⟩
   ·go_roundg k2
    case measure => have := HJ2.out; have := HK2.out; omega
    case rel => exact ⟨(x5_2), (wrap64 (x19_2 + 1)), bs, bs, H', ⟨by have := HJ2.out; have := HK2.out; omega⟩, ⟨by (repeat ((with_reducible repeat (first | refine blk_drewN ?_ _ | refine blk_drew ?_ | refine blk_alloc ?_ _)); refine blk_far ?_ NB328_336.out _)); (repeat ((with_reducible repeat (first | refine blk_drewN ?_ _ | refine blk_drew ?_ | refine blk_alloc ?_ _)); refine blk_far ?_ NB328_335.out _)); (with_reducible repeat (first | refine blk_drewN ?_ _ | refine blk_drew ?_ | refine blk_alloc ?_ _)); exact BK328.out⟩, ⟨bX⟩⟩
   ·go_roundg k2
    case measure => have := HJ2.out; have := HK2.out; omega
    case rel => exact ⟨(x5_2), (wrap64 (x19_2 + 1)), bs, bs, H', ⟨by have := HJ2.out; have := HK2.out; omega⟩, ⟨by (repeat ((with_reducible repeat (first | refine blk_drewN ?_ _ | refine blk_drew ?_ | refine blk_alloc ?_ _)); refine blk_far ?_ NB328_336.out _)); (repeat ((with_reducible repeat (first | refine blk_drewN ?_ _ | refine blk_drew ?_ | refine blk_alloc ?_ _)); refine blk_far ?_ NB328_335.out _)); (with_reducible repeat (first | refine blk_drewN ?_ _ | refine blk_drew ?_ | refine blk_alloc ?_ _)); exact BK328.out⟩, ⟨bX⟩⟩
   ·go_roundg k2
    case measure => have := HJ2.out; have := HK2.out; omega
    case rel => exact ⟨(wrap64 (-x5_2)), (wrap64 (x19_2 + 1)), bs, bs, H', ⟨by have := HJ2.out; have := HK2.out; omega⟩, ⟨by (with_reducible repeat (first | refine blk_drewN ?_ _ | refine blk_drew ?_ | refine blk_alloc ?_ _)); exact BK328.out⟩, ⟨bX⟩⟩
   ·go_roundg k2
    case measure => have := HJ2.out; have := HK2.out; omega
    case rel => exact ⟨(x5_2), (wrap64 (x19_2 + 1)), bs, bs, H', ⟨by have := HJ2.out; have := HK2.out; omega⟩, ⟨by (with_reducible repeat (first | refine blk_drewN ?_ _ | refine blk_drew ?_ | refine blk_alloc ?_ _)); exact BK328.out⟩, ⟨bX⟩⟩
   ·go_roundg k2
    case measure => have := HJ2.out; have := HK2.out; omega
    case rel => exact ⟨(x5_2), (wrap64 (x19_2 + 1)), bs, bs, H', ⟨by have := HJ2.out; have := HK2.out; omega⟩, ⟨by (with_reducible repeat (first | refine blk_drewN ?_ _ | refine blk_drew ?_ | refine blk_alloc ?_ _)); exact BK328.out⟩, ⟨bX⟩⟩
   ·go_roundg k2
    case measure => have := HJ2.out; have := HK2.out; omega
    case rel => exact ⟨(x5_2), (wrap64 (x19_2 + 1)), bs, bs, H', ⟨by have := HJ2.out; have := HK2.out; omega⟩, ⟨by (with_reducible repeat (first | refine blk_drewN ?_ _ | refine blk_drew ?_ | refine blk_alloc ?_ _)); exact BK328.out⟩, ⟨bX⟩⟩
   go_ret
   exact bF
end Go.Proofs.Ytfeekdoakoabeaa.G
