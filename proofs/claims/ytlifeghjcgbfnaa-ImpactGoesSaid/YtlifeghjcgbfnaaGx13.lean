-- Written by a program of this session out of the translation; Lean checks it.
import Derived.Test.YtlifeghjcgbfnaaGx0
import Derived.Test.YtlifeghjcgbfnaaGx4
import Derived.Test.YtlifeghjcgbfnaaGx11
import Derived.Test.YtlifeghjcgbfnaaGx12
namespace Go.Proofs.Ytlifeghjcgbfnaa.G
open Go.RowKit Go.Proofs.YtlifeghjcgbfnaaW.PrintWords Go.Proofs.YtlifeghjcgbfnaaW.PrintLast Go.Proofs.YtlifeghjcgbfnaaW.PrintMore
attribute [local go_sem] max2_int min2_int max_two min_two max_three min_three max_four min_four   -- for this text's walks alone
set_option linter.unusedVariables false
set_option linter.unusedSimpArgs false

attribute [local go_sem high] eqA66
/-! ### apogeeref01_Mul: function 44 -/
def apogeeref01_Mul.l0 : Nat → Int → Int → Int → Int → Int → Int → Int → Option (Int × Int)
 | 0, _, _, _, _, _, _, _ => none
 | k + 1, x1, x7, x8, x331000, x331001, x332000, x332001 => if x8 < 64 then (if 0 ≤ x8 then (if (Go.bits .and .u64 (shr .u64 x7 x8) 1) = 1 then ((apogeeref01_plus.f k x332000 x332001 x331000 x331001).bind fun bt332 => ((apogeeref01_plus.f k x331000 x331001 x331000 x331001).bind fun bt334 => (apogeeref01_Mul.l0 k x1 x7 (wrap64 (x8 + 1)) bt334.1 bt334.2 bt332.1 bt332.2))) else ((apogeeref01_plus.f k x331000 x331001 x331000 x331001).bind fun bt336 => (apogeeref01_Mul.l0 k x1 x7 (wrap64 (x8 + 1)) bt336.1 bt336.2 x332000 x332001))) else (none)) else (if x1 < 0 then ((apogeeref01_Flip.f k x331000 x331001).bind fun bt338 => ((apogeeref01_plus.f k x332000 x332001 bt338.1 bt338.2).bind fun bt340 => (some (bt340.1, bt340.2)))) else (some (x332000, x332001)))
def apogeeref01_Mul.f (k : Nat) (a0 : Int) (a1 : Int) : Option (Int × Int) := (apogeeref01_Of.f a0).bind fun bt328 => (apogeeref01_Mul.l0 k a1 (IntKind.u64.wrap (a1)) 0 bt328.1 bt328.2 0 0)
theorem apogeeref01_Mul.mono_l : ∀ k, (∀ y0 y1 y2 y3 y4 y5 y6, LeO (apogeeref01_Mul.l0 k y0 y1 y2 y3 y4 y5 y6) (apogeeref01_Mul.l0 (k + 1) y0 y1 y2 y3 y4 y5 y6))
 | 0 => fun _ _ _ _ _ _ _ r h => by simp [apogeeref01_Mul.l0] at h
 | k + 1 => by
  have ih0 := apogeeref01_Mul.mono_l k
  ·intro y0 y1 y2 y3 y4 y5 y6
   unfold apogeeref01_Mul.l0
   repeat' first
   | (with_reducible exact ih0 _ _ _ _ _ _ _)
   | (with_reducible exact apogeeref01_Flip.mono _ _ _)
   | (with_reducible exact apogeeref01_plus.mono _ _ _ _ _)
   | (with_reducible exact LeO.refl _)
   | (with_reducible exact LeO.none _)
   | (with_reducible refine LeO.ite ?_ ?_)
   | (with_reducible refine LeO.bind ?_ (fun _ => ?_))
   | exact ih0 _ _ _ _ _ _ _
   | exact apogeeref01_Flip.mono _ _ _
   | exact apogeeref01_plus.mono _ _ _ _ _
   | exact LeO.none _
   | refine LeO.ite ?_ ?_
   | refine LeO.bind ?_ (fun _ => ?_)
theorem apogeeref01_Mul.mono : ∀ a0 a1 k, LeO (apogeeref01_Mul.f k a0 a1) (apogeeref01_Mul.f (k + 1) a0 a1) := by
 intro a0 a1 k
 have ih0 := apogeeref01_Mul.mono_l k
 unfold apogeeref01_Mul.f
 repeat' first
   | (with_reducible exact ih0 _ _ _ _ _ _ _)
   | (with_reducible exact apogeeref01_Flip.mono _ _ _)
   | (with_reducible exact apogeeref01_plus.mono _ _ _ _ _)
   | (with_reducible exact LeO.refl _)
   | (with_reducible exact LeO.none _)
   | (with_reducible refine LeO.ite ?_ ?_)
   | (with_reducible refine LeO.bind ?_ (fun _ => ?_))
   | exact ih0 _ _ _ _ _ _ _
   | exact apogeeref01_Flip.mono _ _ _
   | exact apogeeref01_plus.mono _ _ _ _ _
   | exact LeO.none _
   | refine LeO.ite ?_ ?_
   | refine LeO.bind ?_ (fun _ => ?_)
set_option maxHeartbeats 8000000 in
set_option maxRecDepth 100000 in
theorem apogeeref01_Mul.calls (k : Nat) (a0 : Int) (a1 : Int) (r1 : Int) (r2 : Int) (w : World) (h : apogeeref01_Mul.f k a0 a1 = some (r1, r2)) :
  Calls Try.prog 44 #[.int .i64 a0, .int .i64 a1] w fun e w' => e = .returned (.agg #[.int .i64 r1, .int .u64 r2]) ∧ Below w.heap.size w w' := by
 have hu66 := Try.underlying66
 have HB := bA (Below.refl w.heap.size w)
 have H : ((apogeeref01_Of.f a0).bind fun bt328 => (apogeeref01_Mul.l0 k a1 (IntKind.u64.wrap (a1)) 0 bt328.1 bt328.2 0 0)) = some (r1, r2) := h
 clear h
 replace H := Option.bind_eq_some_iff.mp H
 obtain ⟨⟨t328, t329⟩, A30, H⟩ := H
 replace H : (apogeeref01_Mul.l0 k a1 (IntKind.u64.wrap (a1)) 0 t328 t329 0 0) = some (r1, r2) := H
 have A3 := bA A30
 clear A30
 have H' := bA H
 clear H
 go_enter Try.func44, Try.ntmps44
 go_wp2_with (first | ((with_reducible refine gate_dst (N := 4) rfl ?_); refine bE (N := 4) (cs := #[.int .i64 0, .int .u64 0]) (t := 66) ?_; intro gb327 hg w4 hbox hb; have n0_ := bA (bS hb); have n1_ := bA (hbox); have n2_ := bA ((bZ hg : w.heap.size ≤ gb327)); have n3_ := bA ((bZ hg : w.heap.size ≤ gb327)); clear HB; have HB := n0_; have BK327 := n1_; have GW327 := n2_; have GE327 := n3_; clear n0_ n1_ n2_ n3_; clear hb hbox hg) | ((first | ((with_reducible refine gate_callee (f := 62) rfl ?_); refine bC (some 10) Try.func62 #[.int .i64 a0] ?_) | go_at_call 62); (with_reducible refine (apogeeref01_Of.calls a0 t328 t329 _ A3.out).mono ?_); rintro e w5 ⟨rfl, hb⟩; (first | refine ⟨_, rfl, ?_⟩ | skip); have n0_ := bA (bB BK327 hb); have n1_ := bA (bS hb); clear BK327; clear HB; have BK327 := n0_; have HB := n1_; clear n0_ n1_; (try clear hb); (try clear hb2); (try clear hk); (try clear hi)) | ((with_reducible refine gate_dst (N := 5) rfl ?_); refine bE (N := 5) (cs := #[.int .i64 0, .int .u64 0]) (t := 66) ?_; intro gb330 hg w6 hbox hb; have n0_ := bA (bB BK327 hb); have n1_ := bA (bS hb); have n2_ := bA (hbox); have n3_ := bA ((bZ hg : w.heap.size ≤ gb330)); have n4_ := bA ((bZ hg : w.heap.size ≤ gb330)); have n5_ := bA ((bL BK327 hg : gb327 ≠ gb330)); have n6_ := bA ((bG BK327 hg : gb330 ≠ gb327)); clear BK327; clear HB; have BK327 := n0_; have HB := n1_; have BK330 := n2_; have GW330 := n3_; have GE330 := n4_; have NB327_330 := n5_; have NB330_327 := n6_; clear n0_ n1_ n2_ n3_ n4_ n5_ n6_; clear hb hbox hg; have hnb7 := NB330_327.out; have hnc7 := NB327_330.out; have hcz8_0 : w6.cell? ⟨gb330, 0, none⟩ = some (.int .i64 0) := (blk_cell BK330.out 0).trans rfl; have hcz8_1 : w6.cell? ⟨gb330, 1, none⟩ = some (.int .u64 0) := (blk_cell BK330.out 1).trans rfl; have hfz8_0 := blk_frozen BK330.out 0; have hfz8_1 := blk_frozen BK330.out 1) | ((with_reducible refine gate_dst (N := 6) rfl ?_); refine bE (N := 6) (cs := #[.int .i64 0, .int .u64 0]) (t := 66) ?_; intro gb331 hg w9 hbox hb; have n0_ := bA (blk_below (g := gb327) (o := .cells #[.int .i64 0, .int .u64 0] 66 (0, 0)) (by (with_reducible repeat (first | refine blk_drewN ?_ _ | refine blk_drew ?_ | refine blk_alloc ?_ _)); refine blk_far ?_ NB327_330.out _; (with_reducible repeat (first | refine blk_drewN ?_ _ | refine blk_drew ?_ | refine blk_alloc ?_ _)); refine blk_far ?_ NB327_330.out _; (with_reducible repeat (first | refine blk_drewN ?_ _ | refine blk_drew ?_ | refine blk_alloc ?_ _)); exact BK327.out) hb); have n1_ := bA (blk_below (g := gb330) (o := .cells #[.int .i64 t328, .int .u64 t329] 66 (0, 0)) (by (with_reducible repeat (first | refine blk_drewN ?_ _ | refine blk_drew ?_ | refine blk_alloc ?_ _)); refine blk_put (cs := #[.int .i64 t328, .int .u64 0]) ?_ 1 _ rfl; (with_reducible repeat (first | refine blk_drewN ?_ _ | refine blk_drew ?_ | refine blk_alloc ?_ _)); refine blk_put (cs := #[.int .i64 0, .int .u64 0]) ?_ 0 _ rfl; (with_reducible repeat (first | refine blk_drewN ?_ _ | refine blk_drew ?_ | refine blk_alloc ?_ _)); exact BK330.out) hb); have n2_ := bA (bS hb); have n3_ := bA (hbox); have n4_ := bA ((bZ hg : w.heap.size ≤ gb331)); have n5_ := bA ((bZ hg : w.heap.size ≤ gb331)); have n6_ := bA ((by rw [hg]; exact Nat.ne_of_lt (blk_lt (g := gb327) (o := .cells #[.int .i64 0, .int .u64 0] 66 (0, 0)) (by (with_reducible repeat (first | refine blk_drewN ?_ _ | refine blk_drew ?_ | refine blk_alloc ?_ _)); refine blk_far ?_ NB327_330.out _; (with_reducible repeat (first | refine blk_drewN ?_ _ | refine blk_drew ?_ | refine blk_alloc ?_ _)); refine blk_far ?_ NB327_330.out _; (with_reducible repeat (first | refine blk_drewN ?_ _ | refine blk_drew ?_ | refine blk_alloc ?_ _)); exact BK327.out)) : gb327 ≠ gb331)); have n7_ := bA ((by rw [hg]; exact Nat.ne_of_gt (blk_lt (g := gb327) (o := .cells #[.int .i64 0, .int .u64 0] 66 (0, 0)) (by (with_reducible repeat (first | refine blk_drewN ?_ _ | refine blk_drew ?_ | refine blk_alloc ?_ _)); refine blk_far ?_ NB327_330.out _; (with_reducible repeat (first | refine blk_drewN ?_ _ | refine blk_drew ?_ | refine blk_alloc ?_ _)); refine blk_far ?_ NB327_330.out _; (with_reducible repeat (first | refine blk_drewN ?_ _ | refine blk_drew ?_ | refine blk_alloc ?_ _)); exact BK327.out)) : gb331 ≠ gb327)); have n8_ := bA ((by rw [hg]; exact Nat.ne_of_lt (blk_lt (g := gb330) (o := .cells #[.int .i64 t328, .int .u64 t329] 66 (0, 0)) (by (with_reducible repeat (first | refine blk_drewN ?_ _ | refine blk_drew ?_ | refine blk_alloc ?_ _)); refine blk_put (cs := #[.int .i64 t328, .int .u64 0]) ?_ 1 _ rfl; (with_reducible repeat (first | refine blk_drewN ?_ _ | refine blk_drew ?_ | refine blk_alloc ?_ _)); refine blk_put (cs := #[.int .i64 0, .int .u64 0]) ?_ 0 _ rfl; (with_reducible repeat (first | refine blk_drewN ?_ _ | refine blk_drew ?_ | refine blk_alloc ?_ _)); exact BK330.out)) : gb330 ≠ gb331)); have n9_ := bA ((by rw [hg]; exact Nat.ne_of_gt (blk_lt (g := gb330) (o := .cells #[.int .i64 t328, .int .u64 t329] 66 (0, 0)) (by (with_reducible repeat (first | refine blk_drewN ?_ _ | refine blk_drew ?_ | refine blk_alloc ?_ _)); refine blk_put (cs := #[.int .i64 t328, .int .u64 0]) ?_ 1 _ rfl; (with_reducible repeat (first | refine blk_drewN ?_ _ | refine blk_drew ?_ | refine blk_alloc ?_ _)); refine blk_put (cs := #[.int .i64 0, .int .u64 0]) ?_ 0 _ rfl; (with_reducible repeat (first | refine blk_drewN ?_ _ | refine blk_drew ?_ | refine blk_alloc ?_ _)); exact BK330.out)) : gb331 ≠ gb330)); clear BK327; clear BK330; clear HB; have BK327 := n0_; have BK330 := n1_; have HB := n2_; have BK331 := n3_; have GW331 := n4_; have GE331 := n5_; have NB327_331 := n6_; have NB331_327 := n7_; have NB330_331 := n8_; have NB331_330 := n9_; clear n0_ n1_ n2_ n3_ n4_ n5_ n6_ n7_ n8_ n9_; clear hb hbox hg; have hnb10 := NB331_327.out; have hnc10 := NB327_331.out; have hnb11 := NB331_330.out; have hnc11 := NB330_331.out; have hcz12_0 : w9.cell? ⟨gb331, 0, none⟩ = some (.int .i64 0) := (blk_cell BK331.out 0).trans rfl; have hcz12_1 : w9.cell? ⟨gb331, 1, none⟩ = some (.int .u64 0) := (blk_cell BK331.out 1).trans rfl; have hfz12_0 := blk_frozen BK331.out 0; have hfz12_1 := blk_frozen BK331.out 1))
 go_loopg [8] k (fun kq v8 w' => ∃ (x8_1 : Int) (x331000_1 : Int) (x331001_1 : Int) (x332000_1 : Int) (x332001_1 : Int), v8 = .int .i64 x8_1 ∧ Aside0 (apogeeref01_Mul.l0 kq a1 (IntKind.u64.wrap (a1)) x8_1 x331000_1 x331001_1 x332000_1 x332001_1 = some (r1, r2)) ∧ Aside0 (kq ≤ k) ∧ Aside0 (w'.heap[gb327]? = some (.cells #[.int .i64 0, .int .u64 0] 66 (0, 0))) ∧ Aside0 (w'.heap[gb330]? = some (.cells #[.int .i64 x331000_1, .int .u64 x331001_1] 66 (0, 0))) ∧ Aside0 (w'.heap[gb331]? = some (.cells #[.int .i64 x332000_1, .int .u64 x332001_1] 66 (0, 0))) ∧ Aside0 (Below w.heap.size w w'))
 case atStart => exact ⟨(0), (t328), (t329), (0), (0), (by first | rfl | (simp; done) | (simp [*]; done)), H', ⟨Nat.le_refl _⟩, ⟨by (with_reducible repeat (first | refine blk_drewN ?_ _ | refine blk_drew ?_ | refine blk_alloc ?_ _)); refine blk_far ?_ NB327_331.out _; (with_reducible repeat (first | refine blk_drewN ?_ _ | refine blk_drew ?_ | refine blk_alloc ?_ _)); refine blk_far ?_ NB327_331.out _; (with_reducible repeat (first | refine blk_drewN ?_ _ | refine blk_drew ?_ | refine blk_alloc ?_ _)); exact BK327.out⟩, ⟨by (with_reducible repeat (first | refine blk_drewN ?_ _ | refine blk_drew ?_ | refine blk_alloc ?_ _)); refine blk_far ?_ NB330_331.out _; (with_reducible repeat (first | refine blk_drewN ?_ _ | refine blk_drew ?_ | refine blk_alloc ?_ _)); refine blk_far ?_ NB330_331.out _; (with_reducible repeat (first | refine blk_drewN ?_ _ | refine blk_drew ?_ | refine blk_alloc ?_ _)); exact BK330.out⟩, ⟨by (with_reducible repeat (first | refine blk_drewN ?_ _ | refine blk_drew ?_ | refine blk_alloc ?_ _)); refine blk_put (cs := #[.int .i64 0, .int .u64 0]) ?_ 1 _ rfl; (with_reducible repeat (first | refine blk_drewN ?_ _ | refine blk_drew ?_ | refine blk_alloc ?_ _)); refine blk_put (cs := #[.int .i64 0, .int .u64 0]) ?_ 0 _ rfl; (with_reducible repeat (first | refine blk_drewN ?_ _ | refine blk_drew ?_ | refine blk_alloc ?_ _)); exact BK331.out⟩, ⟨bX⟩⟩
 case round =>
  clear H'
  try clear c1
  try clear p2
  try clear c4
  try clear c6
  try clear c7
  try clear c10
  try clear c11
  try clear hcz12_0
  try clear hcz12_1
  try clear hcz8_0
  try clear hcz8_1
  try clear hfz12_0
  try clear hfz12_1
  try clear hfz8_0
  try clear hfz8_1
  obtain ⟨x8_1, x331000_1, x331001_1, x332000_1, x332001_1, rfl, HA, HK1, BK327, BK330, BK331, HB⟩ := hrel
  cases gk with
  | zero => exact absurd HA.out (by simp [apogeeref01_Mul.l0])
  | succ k1 =>
   have H := HA.out
   clear HA
   simp only [apogeeref01_Mul.l0] at H
   by_cases c13 : x8_1 < 64
   ·rw [if_pos c13] at H
    have c13b0 : decide (x8_1 < 64) = true := decide_eq_true c13
    clear c13
    by_cases c14 : 0 ≤ x8_1
    rw [if_pos c14] at H
    have c14b0 := eq_true c14
    have c14b1 : decide (0 ≤ x8_1) = true := decide_eq_true c14
    clear c14
    obtain ⟨ji15, hji15⟩ : ∃ j_ : Int, (shr .u64 (IntKind.u64.wrap (a1)) x8_1) = j_ := ⟨_, rfl⟩
    replace H : (if (Go.bits .and .u64 (ji15) 1) = 1 then ((apogeeref01_plus.f k1 x332000_1 x332001_1 x331000_1 x331001_1).bind fun bt332 => ((apogeeref01_plus.f k1 x331000_1 x331001_1 x331000_1 x331001_1).bind fun bt334 => (apogeeref01_Mul.l0 k1 a1 (IntKind.u64.wrap (a1)) (wrap64 (x8_1 + 1)) bt334.1 bt334.2 bt332.1 bt332.2))) else ((apogeeref01_plus.f k1 x331000_1 x331001_1 x331000_1 x331001_1).bind fun bt336 => (apogeeref01_Mul.l0 k1 a1 (IntKind.u64.wrap (a1)) (wrap64 (x8_1 + 1)) bt336.1 bt336.2 x332000_1 x332001_1))) = some (r1, r2) := by first | (rw [hji15] at H; exact H) | (simp only [hji15] at H ⊢; exact H)
    have hji15_ : ((IntKind.u64.wrap (a1)) / 2 ^ min x8_1.toNat 64) = ji15 := hji15
    have hji15z : x8_1 ≤ 64 → ((IntKind.u64.wrap (a1)) / 2 ^ x8_1.toNat) = ji15 := shr_small hji15
    by_cases c16 : (Go.bits .and .u64 (ji15) 1) = 1
    rw [if_pos c16] at H
    have c16b0 : ((Go.bits .and .u64 (ji15) 1) == 1) = true := beq_iff_eq.mpr c16
    have c16b1 : ((Go.bits .and .u64 (ji15) 1) != 1) = false := bne_eq_false_iff_eq.mpr c16
    clear c16
    replace H := Option.bind_eq_some_iff.mp H
    obtain ⟨⟨t332, t333⟩, A170, H⟩ := H
    replace H : ((apogeeref01_plus.f k1 x331000_1 x331001_1 x331000_1 x331001_1).bind fun bt334 => (apogeeref01_Mul.l0 k1 a1 (IntKind.u64.wrap (a1)) (wrap64 (x8_1 + 1)) bt334.1 bt334.2 t332 t333)) = some (r1, r2) := H
    have A17 := bA A170
    clear A170
    replace H := Option.bind_eq_some_iff.mp H
    obtain ⟨⟨t334, t335⟩, A180, H⟩ := H
    replace H : (apogeeref01_Mul.l0 k1 a1 (IntKind.u64.wrap (a1)) (wrap64 (x8_1 + 1)) t334 t335 t332 t333) = some (r1, r2) := H
    have A18 := bA A180
    clear A180
    have H' := bA H
    clear H
    have hnb19 := NB331_327.out
    have hnc19 := NB327_331.out
    have hnb20 := NB331_330.out
    have hnc20 := NB330_331.out
    have hcz21_0 : wr.cell? ⟨gb331, 0, none⟩ = some (.int .i64 x332000_1) := (blk_cell BK331.out 0).trans rfl
    have hcz21_1 : wr.cell? ⟨gb331, 1, none⟩ = some (.int .u64 x332001_1) := (blk_cell BK331.out 1).trans rfl
    have hfz21_0 := blk_frozen BK331.out 0
    have hfz21_1 := blk_frozen BK331.out 1
    have hnb22 := NB330_327.out
    have hnc22 := NB327_330.out
    have hcz23_0 : wr.cell? ⟨gb330, 0, none⟩ = some (.int .i64 x331000_1) := (blk_cell BK330.out 0).trans rfl
    have hcz23_1 : wr.cell? ⟨gb330, 1, none⟩ = some (.int .u64 x331001_1) := (blk_cell BK330.out 1).trans rfl
    have hfz23_0 := blk_frozen BK330.out 0
    have hfz23_1 := blk_frozen BK330.out 1
    rotate_left
    rw [if_neg c16] at H
    have c16b0 : ((Go.bits .and .u64 (ji15) 1) == 1) = false := beq_eq_false_iff_ne.mpr c16
    have c16b1 : ((Go.bits .and .u64 (ji15) 1) != 1) = true := bne_iff_ne.mpr c16
    replace H := Option.bind_eq_some_iff.mp H
    obtain ⟨⟨t336, t337⟩, A290, H⟩ := H
    replace H : (apogeeref01_Mul.l0 k1 a1 (IntKind.u64.wrap (a1)) (wrap64 (x8_1 + 1)) t336 t337 x332000_1 x332001_1) = some (r1, r2) := H
    have A29 := bA A290
    clear A290
    have H' := bA H
    clear H
    have hnb30 := NB330_327.out
    have hnc30 := NB327_330.out
    have hnb31 := NB330_331.out
    have hnc31 := NB331_330.out
    have hcz32_0 : wr.cell? ⟨gb330, 0, none⟩ = some (.int .i64 x331000_1) := (blk_cell BK330.out 0).trans rfl
    have hcz32_1 : wr.cell? ⟨gb330, 1, none⟩ = some (.int .u64 x331001_1) := (blk_cell BK330.out 1).trans rfl
    have hfz32_0 := blk_frozen BK330.out 0
    have hfz32_1 := blk_frozen BK330.out 1
    rotate_left
    rw [if_neg c14] at H
    exact absurd H (by simp)
    all_goals go_wp2_with (first | ((first | ((with_reducible refine gate_callee (f := 63) rfl ?_); refine bC (some 25) Try.func63 #[.agg #[.int .i64 x332000_1, .int .u64 x332001_1], .agg #[.int .i64 x331000_1, .int .u64 x331001_1]] ?_) | go_at_call 63); (with_reducible refine (apogeeref01_plus.calls k1 x332000_1 x332001_1 x331000_1 x331001_1 t332 t333 _ A17.out).mono ?_); rintro e wz0 ⟨rfl, hb⟩; (first | refine ⟨_, rfl, ?_⟩ | skip); have n0_ := bA (bB BK327 hb); have n1_ := bA (bB BK330 hb); have n2_ := bA (bB BK331 hb); have n3_ := bA (bS hb); clear BK327; clear BK330; clear BK331; clear HB; have BK327 := n0_; have BK330 := n1_; have BK331 := n2_; have HB := n3_; clear n0_ n1_ n2_ n3_; (try clear hb); (try clear hb2); (try clear hk); (try clear hi); have hz1 : wz0.cell? ⟨gb331, 0, none⟩ = some (.int .i64 x332000_1) := (blk_cell BK331.out 0).trans rfl; have hz2 : wz0.cell? ⟨gb331, 1, none⟩ = some (.int .u64 x332001_1) := (blk_cell BK331.out 1).trans rfl; have hz3 := blk_frozen BK331.out 0; have hz4 := blk_frozen BK331.out 1; have hz5 : wz0.cell? ⟨gb330, 0, none⟩ = some (.int .i64 x331000_1) := (blk_cell BK330.out 0).trans rfl; have hz6 : wz0.cell? ⟨gb330, 1, none⟩ = some (.int .u64 x331001_1) := (blk_cell BK330.out 1).trans rfl; have hz7 := blk_frozen BK330.out 0; have hz8 := blk_frozen BK330.out 1) | ((first | ((with_reducible refine gate_callee (f := 63) rfl ?_); refine bC (some 28) Try.func63 #[.agg #[.int .i64 x331000_1, .int .u64 x331001_1], .agg #[.int .i64 x331000_1, .int .u64 x331001_1]] ?_) | go_at_call 63); (with_reducible refine (apogeeref01_plus.calls k1 x331000_1 x331001_1 x331000_1 x331001_1 t334 t335 _ A18.out).mono ?_); rintro e wz1 ⟨rfl, hb⟩; (first | refine ⟨_, rfl, ?_⟩ | skip); have n0_ := bA (blk_below (g := gb327) (o := .cells #[.int .i64 0, .int .u64 0] 66 (0, 0)) (by (with_reducible repeat (first | refine blk_drewN ?_ _ | refine blk_drew ?_ | refine blk_alloc ?_ _)); refine blk_far ?_ NB327_331.out _; (with_reducible repeat (first | refine blk_drewN ?_ _ | refine blk_drew ?_ | refine blk_alloc ?_ _)); refine blk_far ?_ NB327_331.out _; (with_reducible repeat (first | refine blk_drewN ?_ _ | refine blk_drew ?_ | refine blk_alloc ?_ _)); exact BK327.out) hb); have n1_ := bA (blk_below (g := gb330) (o := .cells #[.int .i64 x331000_1, .int .u64 x331001_1] 66 (0, 0)) (by (with_reducible repeat (first | refine blk_drewN ?_ _ | refine blk_drew ?_ | refine blk_alloc ?_ _)); refine blk_far ?_ NB330_331.out _; (with_reducible repeat (first | refine blk_drewN ?_ _ | refine blk_drew ?_ | refine blk_alloc ?_ _)); refine blk_far ?_ NB330_331.out _; (with_reducible repeat (first | refine blk_drewN ?_ _ | refine blk_drew ?_ | refine blk_alloc ?_ _)); exact BK330.out) hb); have n2_ := bA (blk_below (g := gb331) (o := .cells #[.int .i64 t332, .int .u64 t333] 66 (0, 0)) (by (with_reducible repeat (first | refine blk_drewN ?_ _ | refine blk_drew ?_ | refine blk_alloc ?_ _)); refine blk_put (cs := #[.int .i64 t332, .int .u64 x332001_1]) ?_ 1 _ rfl; (with_reducible repeat (first | refine blk_drewN ?_ _ | refine blk_drew ?_ | refine blk_alloc ?_ _)); refine blk_put (cs := #[.int .i64 x332000_1, .int .u64 x332001_1]) ?_ 0 _ rfl; (with_reducible repeat (first | refine blk_drewN ?_ _ | refine blk_drew ?_ | refine blk_alloc ?_ _)); exact BK331.out) hb); have n3_ := bA (bS hb); clear BK327; clear BK330; clear BK331; clear HB; have BK327 := n0_; have BK330 := n1_; have BK331 := n2_; have HB := n3_; clear n0_ n1_ n2_ n3_; (try clear hb); (try clear hb2); (try clear hk); (try clear hi); have hz9 : wz1.cell? ⟨gb330, 0, none⟩ = some (.int .i64 x331000_1) := (blk_cell BK330.out 0).trans rfl; have hz10 : wz1.cell? ⟨gb330, 1, none⟩ = some (.int .u64 x331001_1) := (blk_cell BK330.out 1).trans rfl; have hz7 := blk_frozen BK330.out 0; have hz8 := blk_frozen BK330.out 1) | ((first | ((with_reducible refine gate_callee (f := 63) rfl ?_); refine bC (some 28) Try.func63 #[.agg #[.int .i64 x331000_1, .int .u64 x331001_1], .agg #[.int .i64 x331000_1, .int .u64 x331001_1]] ?_) | go_at_call 63); (with_reducible refine (apogeeref01_plus.calls k1 x331000_1 x331001_1 x331000_1 x331001_1 t336 t337 _ A29.out).mono ?_); rintro e wz0 ⟨rfl, hb⟩; (first | refine ⟨_, rfl, ?_⟩ | skip); have n0_ := bA (bB BK327 hb); have n1_ := bA (bB BK330 hb); have n2_ := bA (bB BK331 hb); have n3_ := bA (bS hb); clear BK327; clear BK330; clear BK331; clear HB; have BK327 := n0_; have BK330 := n1_; have BK331 := n2_; have HB := n3_; clear n0_ n1_ n2_ n3_; (try clear hb); (try clear hb2); (try clear hk); (try clear hi); have hz5 : wz0.cell? ⟨gb330, 0, none⟩ = some (.int .i64 x331000_1) := (blk_cell BK330.out 0).trans rfl; have hz6 : wz0.cell? ⟨gb330, 1, none⟩ = some (.int .u64 x331001_1) := (blk_cell BK330.out 1).trans rfl; have hz7 := blk_frozen BK330.out 0; have hz8 := blk_frozen BK330.out 1))
    ·go_roundg k1
     case measure => have := HK1.out; omega
     case rel => exact ⟨(wrap64 (x8_1 + 1)), (t334), (t335), (t332), (t333), (by first | rfl | (simp; done) | (simp [*]; done)), H', ⟨by have := HK1.out; omega⟩, ⟨by (with_reducible repeat (first | refine blk_drewN ?_ _ | refine blk_drew ?_ | refine blk_alloc ?_ _)); refine blk_far ?_ NB327_330.out _; (with_reducible repeat (first | refine blk_drewN ?_ _ | refine blk_drew ?_ | refine blk_alloc ?_ _)); refine blk_far ?_ NB327_330.out _; (with_reducible repeat (first | refine blk_drewN ?_ _ | refine blk_drew ?_ | refine blk_alloc ?_ _)); exact BK327.out⟩, ⟨by (with_reducible repeat (first | refine blk_drewN ?_ _ | refine blk_drew ?_ | refine blk_alloc ?_ _)); refine blk_put (cs := #[.int .i64 t334, .int .u64 x331001_1]) ?_ 1 _ rfl; (with_reducible repeat (first | refine blk_drewN ?_ _ | refine blk_drew ?_ | refine blk_alloc ?_ _)); refine blk_put (cs := #[.int .i64 x331000_1, .int .u64 x331001_1]) ?_ 0 _ rfl; (with_reducible repeat (first | refine blk_drewN ?_ _ | refine blk_drew ?_ | refine blk_alloc ?_ _)); exact BK330.out⟩, ⟨by (with_reducible repeat (first | refine blk_drewN ?_ _ | refine blk_drew ?_ | refine blk_alloc ?_ _)); refine blk_far ?_ NB331_330.out _; (with_reducible repeat (first | refine blk_drewN ?_ _ | refine blk_drew ?_ | refine blk_alloc ?_ _)); refine blk_far ?_ NB331_330.out _; (with_reducible repeat (first | refine blk_drewN ?_ _ | refine blk_drew ?_ | refine blk_alloc ?_ _)); exact BK331.out⟩, ⟨bX⟩⟩
    ·go_roundg k1
     case measure => have := HK1.out; omega
     case rel => exact ⟨(wrap64 (x8_1 + 1)), (t336), (t337), (x332000_1), (x332001_1), (by first | rfl | (simp; done) | (simp [*]; done)), H', ⟨by have := HK1.out; omega⟩, ⟨by (with_reducible repeat (first | refine blk_drewN ?_ _ | refine blk_drew ?_ | refine blk_alloc ?_ _)); refine blk_far ?_ NB327_330.out _; (with_reducible repeat (first | refine blk_drewN ?_ _ | refine blk_drew ?_ | refine blk_alloc ?_ _)); refine blk_far ?_ NB327_330.out _; (with_reducible repeat (first | refine blk_drewN ?_ _ | refine blk_drew ?_ | refine blk_alloc ?_ _)); exact BK327.out⟩, ⟨by (with_reducible repeat (first | refine blk_drewN ?_ _ | refine blk_drew ?_ | refine blk_alloc ?_ _)); refine blk_put (cs := #[.int .i64 t336, .int .u64 x331001_1]) ?_ 1 _ rfl; (with_reducible repeat (first | refine blk_drewN ?_ _ | refine blk_drew ?_ | refine blk_alloc ?_ _)); refine blk_put (cs := #[.int .i64 x331000_1, .int .u64 x331001_1]) ?_ 0 _ rfl; (with_reducible repeat (first | refine blk_drewN ?_ _ | refine blk_drew ?_ | refine blk_alloc ?_ _)); exact BK330.out⟩, ⟨by (with_reducible repeat (first | refine blk_drewN ?_ _ | refine blk_drew ?_ | refine blk_alloc ?_ _)); refine blk_far ?_ NB331_330.out _; (with_reducible repeat (first | refine blk_drewN ?_ _ | refine blk_drew ?_ | refine blk_alloc ?_ _)); refine blk_far ?_ NB331_330.out _; (with_reducible repeat (first | refine blk_drewN ?_ _ | refine blk_drew ?_ | refine blk_alloc ?_ _)); exact BK331.out⟩, ⟨bX⟩⟩
   ·rw [if_neg c13] at H
    have c13b0 : decide (x8_1 < 64) = false := decide_eq_false c13
    clear c13
    by_cases c35 : a1 < 0
    ·rw [if_pos c35] at H
     have c35b0 : decide (a1 < 0) = true := decide_eq_true c35
     clear c35
     replace H := Option.bind_eq_some_iff.mp H
     obtain ⟨⟨t338, t339⟩, A360, H⟩ := H
     replace H : ((apogeeref01_plus.f k1 x332000_1 x332001_1 t338 t339).bind fun bt340 => (some (bt340.1, bt340.2))) = some (r1, r2) := H
     have A36 := bA A360
     clear A360
     replace H := Option.bind_eq_some_iff.mp H
     obtain ⟨⟨t340, t341⟩, A370, H⟩ := H
     replace H : (some (t340, t341)) = some (r1, r2) := H
     have A37 := bA A370
     clear A370
     simp only [Option.some.injEq, Prod.mk.injEq] at H
     obtain ⟨rfl, rfl⟩ := H
     try go_wp2
     have n0_ := bA (blk_drew BK327.out)
     have n1_ := bA (blk_drew BK330.out)
     have n2_ := bA (blk_drew BK331.out)
     have n3_ := bA (below_drew1 HB.out)
     clear BK327
     clear BK330
     clear BK331
     clear HB
     have BK327 := n0_
     have BK330 := n1_
     have BK331 := n2_
     have HB := n3_
     clear n0_ n1_ n2_ n3_
     refine start_ (n := 5) (S := fun w' => w'.cell? ⟨gb331, 0, none⟩ = some (.int .i64 x332000_1) ∧ w'.cell? ⟨gb331, 1, none⟩ = some (.int .u64 x332001_1) ∧ w'.cell? ⟨gb330, 0, none⟩ = some (.int .i64 x331000_1) ∧ w'.cell? ⟨gb330, 1, none⟩ = some (.int .u64 x331001_1)) (ds := [4]) #[false, false, false, false, false] (by kernel_rfl) rfl rfl ⟨(blk_cell BK331.out 0).trans rfl, (blk_cell BK331.out 1).trans rfl, (blk_cell BK330.out 0).trans rfl, (blk_cell BK330.out 1).trans rfl⟩ (fun hHeld => ?_)
     generalize wr.drew = w38 at BK327 BK330 BK331 HB hHeld ⊢
     refine take_ (i := 0) (N := some 31) (v := ?_) (a' := ?_) #[true, false, false, false, false] rfl rfl (by kernel_rfl) (fun _ _ _ h => h) (Or.inl ⟨by rfl, ?_⟩) hHeld ?_ ?_
     rotate_left
     ·rintro w' ⟨s0, s1, s2, s3⟩
      go_simp
      with_reducible rfl
     rotate_left
     ·simp only [Act.put, List.setIfInBounds_toArray, List.set_cons_zero, List.set_cons_succ, i64_w, i32_w]
      rfl
     refine take_ (i := 1) (N := some 32) (v := ?_) (a' := ?_) #[true, true, false, false, false] rfl rfl (by kernel_rfl) (fun _ _ _ h => h) (Or.inl ⟨by rfl, ?_⟩) hHeld ?_ ?_
     rotate_left
     ·rintro w' ⟨s0, s1, s2, s3⟩
      go_simp
      with_reducible rfl
     rotate_left
     ·simp only [Act.put, List.setIfInBounds_toArray, List.set_cons_zero, List.set_cons_succ, i64_w, i32_w]
      rfl
     refine one_ (i := 2) (N := some 33) #[true, true, true, false, false] rfl rfl (by kernel_rfl) (by decide) (fun K hK => ?_)
     refine goes_ Try.func64 (by kernel_rfl) rfl #[.agg #[.int .i64 x331000_1, .int .u64 x331001_1]] (by rfl) rfl rfl (by (try simp only [List.map_toArray, List.map_cons, List.map_nil]); first | done | rfl | (simp only [List.length_drop, List.length_take]; rfl)) ?_
     with_reducible refine (apogeeref01_Flip.calls k1 x331000_1 x331001_1 t338 t339 _ A36.out).mono ?_
     rintro e w39 ⟨rfl, hb⟩
     refine ⟨_, rfl, ?_⟩
     have n0_ := bA (bB BK327 hb)
     have n1_ := bA (bB BK330 hb)
     have n2_ := bA (bB BK331 hb)
     have n3_ := bA (bS hb)
     clear BK327
     clear BK330
     clear BK331
     clear HB
     have BK327 := n0_
     have BK330 := n1_
     have BK331 := n2_
     have HB := n3_
     clear n0_ n1_ n2_ n3_
     (try clear hb)
     (try clear hb2)
     (try clear hk)
     (try clear hi)
     refine hK.out _ _ ⟨(blk_cell BK331.out 0).trans rfl, (blk_cell BK331.out 1).trans rfl, (blk_cell BK330.out 0).trans rfl, (blk_cell BK330.out 1).trans rfl⟩ (fun hHeld => ?_)
     clear hK K
     refine norm_ (a' := ?_) ?_ ?_
     rotate_left
     ·show Act.put _ (some 33) _ = _
      simp only [Act.put, List.setIfInBounds_toArray, List.set_cons_zero, List.set_cons_succ, i64_w, i32_w]
      rfl
     refine one_ (i := 3) (N := some 34) #[true, true, true, true, false] rfl rfl (by kernel_rfl) (by decide) (fun K hK => ?_)
     refine goes_ Try.func63 (by kernel_rfl) rfl #[.agg #[.int .i64 x332000_1, .int .u64 x332001_1], .agg #[.int .i64 t338, .int .u64 t339]] (by rfl) rfl rfl (by (try simp only [List.map_toArray, List.map_cons, List.map_nil]); first | done | rfl | (simp only [List.length_drop, List.length_take]; rfl)) ?_
     with_reducible refine (apogeeref01_plus.calls k1 x332000_1 x332001_1 t338 t339 t340 t341 _ A37.out).mono ?_
     rintro e w40 ⟨rfl, hb⟩
     refine ⟨_, rfl, ?_⟩
     have n0_ := bA (bB BK327 hb)
     have n1_ := bA (bB BK330 hb)
     have n2_ := bA (bB BK331 hb)
     have n3_ := bA (bS hb)
     clear BK327
     clear BK330
     clear BK331
     clear HB
     have BK327 := n0_
     have BK330 := n1_
     have BK331 := n2_
     have HB := n3_
     clear n0_ n1_ n2_ n3_
     (try clear hb)
     (try clear hb2)
     (try clear hk)
     (try clear hi)
     refine hK.out _ _ ⟨(blk_cell BK331.out 0).trans rfl, (blk_cell BK331.out 1).trans rfl, (blk_cell BK330.out 0).trans rfl, (blk_cell BK330.out 1).trans rfl⟩ (fun hHeld => ?_)
     clear hK K
     refine norm_ (a' := ?_) ?_ ?_
     rotate_left
     ·show Act.put _ (some 34) _ = _
      simp only [Act.put, List.setIfInBounds_toArray, List.set_cons_zero, List.set_cons_succ, i64_w, i32_w]
      rfl
     refine last_ (i := 4) (N := none) #[true, true, true, true, true] rfl rfl (by kernel_rfl) (by decide) (fun K hK => ?_)
     have hs41 : w40.cell? ⟨gb331, 0, none⟩ = some (.int .i64 x332000_1) := (blk_cell BK331.out 0).trans rfl
     have hfs41 := blk_frozen BK331.out 0
     have hns41_0 := NB327_331.out
     have hns41_1 := NB330_331.out
     have hms41_0 := NB331_327.out
     have hms41_1 := NB331_330.out
     have hs42 : w40.cell? ⟨gb331, 1, none⟩ = some (.int .u64 x332001_1) := (blk_cell BK331.out 1).trans rfl
     have hfs42 := blk_frozen BK331.out 1
     have hns42_0 := NB327_331.out
     have hns42_1 := NB330_331.out
     have hms42_0 := NB331_327.out
     have hms42_1 := NB331_330.out
     refine skip_ (w1 := ?_) (by rfl) rfl ?_ ?_
     rotate_left
     ·go_simp
      rfl
     refine hK.out _ _ ?_
     clear hK K
     refine done_ (by kernel_rfl) ?_
     have hnb43 := NB331_327.out
     have hnc43 := NB327_331.out
     have hnb44 := NB331_330.out
     have hnc44 := NB330_331.out
     have hcz45_0 : w40.cell? ⟨gb331, 0, none⟩ = some (.int .i64 x332000_1) := (blk_cell BK331.out 0).trans rfl
     have hcz45_1 : w40.cell? ⟨gb331, 1, none⟩ = some (.int .u64 x332001_1) := (blk_cell BK331.out 1).trans rfl
     have hfz45_0 := blk_frozen BK331.out 0
     have hfz45_1 := blk_frozen BK331.out 1
     have hnb46 := NB327_330.out
     have hnc46 := NB330_327.out
     have hcz47_0 : w40.cell? ⟨gb327, 0, none⟩ = some (.int .i64 0) := (blk_cell BK327.out 0).trans rfl
     have hcz47_1 : w40.cell? ⟨gb327, 1, none⟩ = some (.int .u64 0) := (blk_cell BK327.out 1).trans rfl
     have hfz47_0 := blk_frozen BK327.out 0
     have hfz47_1 := blk_frozen BK327.out 1
     try go_wp2
     refine bodyPost_ret (results_cell_row rfl _ _ gb327 66 #[.int .i64 t340, .int .u64 t341] (0, 0) _ rfl (by (with_reducible repeat (first | refine blk_drewN ?_ _ | refine blk_drew ?_ | refine blk_alloc ?_ _)); refine blk_put (cs := #[.int .i64 t340, .int .u64 0]) ?_ 1 _ rfl; (with_reducible repeat (first | refine blk_drewN ?_ _ | refine blk_drew ?_ | refine blk_alloc ?_ _)); refine blk_put (cs := #[.int .i64 0, .int .u64 0]) ?_ 0 _ rfl; (with_reducible repeat (first | refine blk_drewN ?_ _ | refine blk_drew ?_ | refine blk_alloc ?_ _)); refine blk_far ?_ NB327_331.out _; (with_reducible repeat (first | refine blk_drewN ?_ _ | refine blk_drew ?_ | refine blk_alloc ?_ _)); refine blk_far ?_ NB327_331.out _; (with_reducible repeat (first | refine blk_drewN ?_ _ | refine blk_drew ?_ | refine blk_alloc ?_ _)); exact BK327.out) Try.underlying66 rfl (by kernel_rfl)) rfl ?_
     exact bF
    ·rw [if_neg c35] at H
     have c35b0 : decide (a1 < 0) = false := decide_eq_false c35
     clear c35
     simp only [Option.some.injEq, Prod.mk.injEq] at H
     obtain ⟨rfl, rfl⟩ := H
     have hnb48 := NB331_327.out
     have hnc48 := NB327_331.out
     have hnb49 := NB331_330.out
     have hnc49 := NB330_331.out
     have hcz50_0 : wr.cell? ⟨gb331, 0, none⟩ = some (.int .i64 x332000_1) := (blk_cell BK331.out 0).trans rfl
     have hcz50_1 : wr.cell? ⟨gb331, 1, none⟩ = some (.int .u64 x332001_1) := (blk_cell BK331.out 1).trans rfl
     have hfz50_0 := blk_frozen BK331.out 0
     have hfz50_1 := blk_frozen BK331.out 1
     have hnb51 := NB327_330.out
     have hnc51 := NB330_327.out
     have hcz52_0 : wr.cell? ⟨gb327, 0, none⟩ = some (.int .i64 0) := (blk_cell BK327.out 0).trans rfl
     have hcz52_1 : wr.cell? ⟨gb327, 1, none⟩ = some (.int .u64 0) := (blk_cell BK327.out 1).trans rfl
     have hfz52_0 := blk_frozen BK327.out 0
     have hfz52_1 := blk_frozen BK327.out 1
     go_wp2
     refine bodyPost_ret (results_cell_row rfl _ _ gb327 66 #[.int .i64 x332000_1, .int .u64 x332001_1] (0, 0) _ rfl (by (with_reducible repeat (first | refine blk_drewN ?_ _ | refine blk_drew ?_ | refine blk_alloc ?_ _)); refine blk_put (cs := #[.int .i64 x332000_1, .int .u64 0]) ?_ 1 _ rfl; (with_reducible repeat (first | refine blk_drewN ?_ _ | refine blk_drew ?_ | refine blk_alloc ?_ _)); refine blk_put (cs := #[.int .i64 0, .int .u64 0]) ?_ 0 _ rfl; (with_reducible repeat (first | refine blk_drewN ?_ _ | refine blk_drew ?_ | refine blk_alloc ?_ _)); exact BK327.out) Try.underlying66 rfl (by kernel_rfl)) rfl ?_
     exact bF
/-! ### apogeeref01_Cmp: function 43 -/
def apogeeref01_Cmp.j0 : Nat → Bool → Int → Int → Int → Int → Option (Int)
 | 0, _, _, _, _, _ => none
 | k + 1, x5, x343000, x343001, x344000, x344001 => if x5 = true then (some (-1)) else (if (x343000 == x344000 && (x343001 == x344001)) = true then (some 0) else (some 1))
def apogeeref01_Cmp.f (k : Nat) (a0_0 : Int) (a0_1 : Int) (a1_0 : Int) (a1_1 : Int) : Option (Int) := if a0_0 < a1_0 then (apogeeref01_Cmp.j0 k true a0_0 a0_1 a1_0 a1_1) else (if a0_0 = a1_0 then (apogeeref01_Cmp.j0 k (decide (a0_1 < a1_1)) a0_0 a0_1 a1_0 a1_1) else (apogeeref01_Cmp.j0 k false a0_0 a0_1 a1_0 a1_1))
theorem apogeeref01_Cmp.mono_l : ∀ k, (∀ y0 y1 y2 y3 y4, LeO (apogeeref01_Cmp.j0 k y0 y1 y2 y3 y4) (apogeeref01_Cmp.j0 (k + 1) y0 y1 y2 y3 y4))
 | 0 => fun _ _ _ _ _ r h => by simp [apogeeref01_Cmp.j0] at h
 | k + 1 => by
  have ih0 := apogeeref01_Cmp.mono_l k
  ·intro y0 y1 y2 y3 y4
   unfold apogeeref01_Cmp.j0
   repeat' first
   | (with_reducible exact ih0 _ _ _ _ _)
   | (with_reducible exact LeO.refl _)
   | (with_reducible exact LeO.none _)
   | (with_reducible refine LeO.ite ?_ ?_)
   | (with_reducible refine LeO.bind ?_ (fun _ => ?_))
   | exact ih0 _ _ _ _ _
   | exact LeO.none _
   | refine LeO.ite ?_ ?_
   | refine LeO.bind ?_ (fun _ => ?_)
theorem apogeeref01_Cmp.mono : ∀ a0 a1 a2 a3 k, LeO (apogeeref01_Cmp.f k a0 a1 a2 a3) (apogeeref01_Cmp.f (k + 1) a0 a1 a2 a3) := by
 intro a0 a1 a2 a3 k
 have ih0 := apogeeref01_Cmp.mono_l k
 unfold apogeeref01_Cmp.f
 repeat' first
   | (with_reducible exact ih0 _ _ _ _ _)
   | (with_reducible exact LeO.refl _)
   | (with_reducible exact LeO.none _)
   | (with_reducible refine LeO.ite ?_ ?_)
   | (with_reducible refine LeO.bind ?_ (fun _ => ?_))
   | exact ih0 _ _ _ _ _
   | exact LeO.none _
   | refine LeO.ite ?_ ?_
   | refine LeO.bind ?_ (fun _ => ?_)
set_option maxHeartbeats 8000000 in
set_option maxRecDepth 100000 in
theorem apogeeref01_Cmp.calls (k : Nat) (a0_0 : Int) (a0_1 : Int) (a1_0 : Int) (a1_1 : Int) (r : Int) (w : World) (h : apogeeref01_Cmp.f k a0_0 a0_1 a1_0 a1_1 = some r) :
  Calls Try.prog 43 #[.agg #[.int .i64 a0_0, .int .u64 a0_1], .agg #[.int .i64 a1_0, .int .u64 a1_1]] w fun e w' => e = .returned (.int .i64 r) ∧ Below w.heap.size w w' := by
 have hu66 := Try.underlying66
 have HB := bA (Below.refl w.heap.size w)
 have H : (if a0_0 < a1_0 then (apogeeref01_Cmp.j0 k true a0_0 a0_1 a1_0 a1_1) else (if a0_0 = a1_0 then (apogeeref01_Cmp.j0 k (decide (a0_1 < a1_1)) a0_0 a0_1 a1_0 a1_1) else (apogeeref01_Cmp.j0 k false a0_0 a0_1 a1_0 a1_1))) = some r := h
 clear h
 have HC3 := bA H
 clear H
 go_enter Try.func43, Try.ntmps43
 go_upto_region 1 with (first | ((with_reducible refine gate_dst (N := 2) rfl ?_); refine bE (N := 2) (cs := #[.int .i64 a0_0, .int .u64 a0_1]) (t := 66) ?_; intro gb342 hg w4 hbox hb; have n0_ := bA (bS hb); have n1_ := bA (hbox); have n2_ := bA ((bZ hg : w.heap.size ≤ gb342)); have n3_ := bA ((bZ hg : w.heap.size ≤ gb342)); clear HB; have HB := n0_; have BK342 := n1_; have GW342 := n2_; have GE342 := n3_; clear n0_ n1_ n2_ n3_; clear hb hbox hg) | ((with_reducible refine gate_dst (N := 3) rfl ?_); refine bE (N := 3) (cs := #[.int .i64 a1_0, .int .u64 a1_1]) (t := 66) ?_; intro gb343 hg w5 hbox hb; have n0_ := bA (bB BK342 hb); have n1_ := bA (bS hb); have n2_ := bA (hbox); have n3_ := bA ((bZ hg : w.heap.size ≤ gb343)); have n4_ := bA ((bZ hg : w.heap.size ≤ gb343)); have n5_ := bA ((bL BK342 hg : gb342 ≠ gb343)); have n6_ := bA ((bG BK342 hg : gb343 ≠ gb342)); clear BK342; clear HB; have BK342 := n0_; have HB := n1_; have BK343 := n2_; have GW343 := n3_; have GE343 := n4_; have NB342_343 := n5_; have NB343_342 := n6_; clear n0_ n1_ n2_ n3_ n4_ n5_ n6_; clear hb hbox hg))
 (try simp only [Act.put, List.setIfInBounds_toArray, List.set_cons_zero, List.set_cons_succ])
 go_cut [5] (fun v5 wc => ∃ (kq : Nat) (x5_2 : Bool), v5 = .bool x5_2 ∧ Aside0 (apogeeref01_Cmp.j0 kq x5_2 a0_0 a0_1 a1_0 a1_1 = some r) ∧ Aside0 (kq ≤ k) ∧ Aside0 (wc.heap[gb342]? = some (.cells #[.int .i64 a0_0, .int .u64 a0_1] 66 (0, 0))) ∧ Aside0 (wc.heap[gb343]? = some (.cells #[.int .i64 a1_0, .int .u64 a1_1] 66 (0, 0))) ∧ Aside0 (Below w.heap.size w wc))
 case first =>
  have H := HC3.out
  clear HC3
  by_cases c6 : a0_0 < a1_0
  rw [if_pos c6] at H
  have c6b0 : decide (a0_0 < a1_0) = true := decide_eq_true c6
  clear c6
  (first | rw [c6b0] | (simp only [i64_w, i32_w]; rw [c6b0]) | skip)
  have H' := bA H
  clear H
  have hnb7 := NB342_343.out
  have hnc7 := NB343_342.out
  have hcz8_0 : w5.cell? ⟨gb342, 0, none⟩ = some (.int .i64 a0_0) := (blk_cell BK342.out 0).trans rfl
  have hcz8_1 : w5.cell? ⟨gb342, 1, none⟩ = some (.int .u64 a0_1) := (blk_cell BK342.out 1).trans rfl
  have hfz8_0 := blk_frozen BK342.out 0
  have hfz8_1 := blk_frozen BK342.out 1
  have hcz9_0 : w5.cell? ⟨gb343, 0, none⟩ = some (.int .i64 a1_0) := (blk_cell BK343.out 0).trans rfl
  have hcz9_1 : w5.cell? ⟨gb343, 1, none⟩ = some (.int .u64 a1_1) := (blk_cell BK343.out 1).trans rfl
  have hfz9_0 := blk_frozen BK343.out 0
  have hfz9_1 := blk_frozen BK343.out 1
  rotate_left
  rw [if_neg c6] at H
  have c6b0 : decide (a0_0 < a1_0) = false := decide_eq_false c6
  clear c6
  (first | rw [c6b0] | (simp only [i64_w, i32_w]; rw [c6b0]) | skip)
  by_cases c10 : a0_0 = a1_0
  rw [if_pos c10] at H
  have c10b0 : (a0_0 == a1_0) = true := beq_iff_eq.mpr c10
  have c10b1 : (a0_0 != a1_0) = false := bne_eq_false_iff_eq.mpr c10
  clear c10
  have H' := bA H
  clear H
  have hnb11 := NB342_343.out
  have hnc11 := NB343_342.out
  have hcz12_0 : w5.cell? ⟨gb342, 0, none⟩ = some (.int .i64 a0_0) := (blk_cell BK342.out 0).trans rfl
  have hcz12_1 : w5.cell? ⟨gb342, 1, none⟩ = some (.int .u64 a0_1) := (blk_cell BK342.out 1).trans rfl
  have hfz12_0 := blk_frozen BK342.out 0
  have hfz12_1 := blk_frozen BK342.out 1
  have hcz13_0 : w5.cell? ⟨gb343, 0, none⟩ = some (.int .i64 a1_0) := (blk_cell BK343.out 0).trans rfl
  have hcz13_1 : w5.cell? ⟨gb343, 1, none⟩ = some (.int .u64 a1_1) := (blk_cell BK343.out 1).trans rfl
  have hfz13_0 := blk_frozen BK343.out 0
  have hfz13_1 := blk_frozen BK343.out 1
  rotate_left
  rw [if_neg c10] at H
  have c10b0 : (a0_0 == a1_0) = false := beq_eq_false_iff_ne.mpr c10
  have c10b1 : (a0_0 != a1_0) = true := bne_iff_ne.mpr c10
  have H' := bA H
  clear H
  have hnb14 := NB342_343.out
  have hnc14 := NB343_342.out
  have hcz15_0 : w5.cell? ⟨gb342, 0, none⟩ = some (.int .i64 a0_0) := (blk_cell BK342.out 0).trans rfl
  have hcz15_1 : w5.cell? ⟨gb342, 1, none⟩ = some (.int .u64 a0_1) := (blk_cell BK342.out 1).trans rfl
  have hfz15_0 := blk_frozen BK342.out 0
  have hfz15_1 := blk_frozen BK342.out 1
  have hcz16_0 : w5.cell? ⟨gb343, 0, none⟩ = some (.int .i64 a1_0) := (blk_cell BK343.out 0).trans rfl
  have hcz16_1 : w5.cell? ⟨gb343, 1, none⟩ = some (.int .u64 a1_1) := (blk_cell BK343.out 1).trans rfl
  have hfz16_0 := blk_frozen BK343.out 0
  have hfz16_1 := blk_frozen BK343.out 1
  rotate_left
  all_goals go_wp2
  ·go_meet
   case rel => exact ⟨_, (true), (by first | rfl | (simp; done) | (simp [*]; done)), H', ⟨by first | omega | exact Nat.le_refl _⟩, ⟨by (with_reducible repeat (first | refine blk_drewN ?_ _ | refine blk_drew ?_ | refine blk_alloc ?_ _)); exact BK342.out⟩, ⟨by (with_reducible repeat (first | refine blk_drewN ?_ _ | refine blk_drew ?_ | refine blk_alloc ?_ _)); exact BK343.out⟩, ⟨bX⟩⟩
  ·go_meet
   case rel => exact ⟨_, (decide (a0_1 < a1_1)), (by first | rfl | (simp; done) | (simp [*]; done)), H', ⟨by first | omega | exact Nat.le_refl _⟩, ⟨by (with_reducible repeat (first | refine blk_drewN ?_ _ | refine blk_drew ?_ | refine blk_alloc ?_ _)); exact BK342.out⟩, ⟨by (with_reducible repeat (first | refine blk_drewN ?_ _ | refine blk_drew ?_ | refine blk_alloc ?_ _)); exact BK343.out⟩, ⟨bX⟩⟩
  ·go_meet
   case rel => exact ⟨_, (false), (by first | rfl | (simp; done) | (simp [*]; done)), H', ⟨by first | omega | exact Nat.le_refl _⟩, ⟨by (with_reducible repeat (first | refine blk_drewN ?_ _ | refine blk_drew ?_ | refine blk_alloc ?_ _)); exact BK342.out⟩, ⟨by (with_reducible repeat (first | refine blk_drewN ?_ _ | refine blk_drew ?_ | refine blk_alloc ?_ _)); exact BK343.out⟩, ⟨bX⟩⟩
 case rest =>
  clear HC3
  try clear c1
  try clear p2
  try clear c4
  try clear c6
  try clear c6b0
  try clear c7
  try clear c10
  try clear c10b0
  try clear c10b1
  try clear c11
  try clear c14
  try clear hcz12_0
  try clear hcz12_1
  try clear hcz13_0
  try clear hcz13_1
  try clear hcz15_0
  try clear hcz15_1
  try clear hcz16_0
  try clear hcz16_1
  try clear hcz8_0
  try clear hcz8_1
  try clear hcz9_0
  try clear hcz9_1
  try clear hfz12_0
  try clear hfz12_1
  try clear hfz13_0
  try clear hfz13_1
  try clear hfz15_0
  try clear hfz15_1
  try clear hfz16_0
  try clear hfz16_1
  try clear hfz8_0
  try clear hfz8_1
  try clear hfz9_0
  try clear hfz9_1
  obtain ⟨kq, x5_2, rfl, HA, HJ2, BK342, BK343, HB⟩ := hcut
  cases kq with
  | zero => exact absurd HA.out (by simp [apogeeref01_Cmp.j0])
  | succ kj2 =>
   have H := HA.out
   clear HA
   simp only [apogeeref01_Cmp.j0] at H
   by_cases c17 : x5_2 = true
   subst c17
   rw [if_pos rfl] at H
   obtain rfl := Option.some.inj H
   rotate_left
   replace c17 := Bool.eq_false_iff.mpr c17
   subst c17
   rw [if_neg (show ¬ (false = true) by decide)] at H
   by_cases c18 : (a0_0 == a1_0 && (a0_1 == a1_1)) = true
   rw [if_pos c18] at H
   have c18b0 : (a0_0 == a1_0 && (a0_1 == a1_1)) = true := c18
   (try (have c18b1 : decide (a0_0 = a1_0 && (a0_1 == a1_1)) = true := by simpa using c18))
   (try (have c18b2 : (a0_0 == a1_0 && (a0_1 == a1_1)) = true := by simpa using c18))
   clear c18
   obtain rfl := Option.some.inj H
   have hnb19 := NB342_343.out
   have hnc19 := NB343_342.out
   have hcz20_0 : wc.cell? ⟨gb342, 0, none⟩ = some (.int .i64 a0_0) := (blk_cell BK342.out 0).trans rfl
   have hcz20_1 : wc.cell? ⟨gb342, 1, none⟩ = some (.int .u64 a0_1) := (blk_cell BK342.out 1).trans rfl
   have hfz20_0 := blk_frozen BK342.out 0
   have hfz20_1 := blk_frozen BK342.out 1
   have hcz21_0 : wc.cell? ⟨gb343, 0, none⟩ = some (.int .i64 a1_0) := (blk_cell BK343.out 0).trans rfl
   have hcz21_1 : wc.cell? ⟨gb343, 1, none⟩ = some (.int .u64 a1_1) := (blk_cell BK343.out 1).trans rfl
   have hfz21_0 := blk_frozen BK343.out 0
   have hfz21_1 := blk_frozen BK343.out 1
   rotate_left
   rw [if_neg c18] at H
   have c18b0 : (a0_0 == a1_0 && (a0_1 == a1_1)) = false := by simpa using c18
   (try (have c18b1 : decide (a0_0 = a1_0 && (a0_1 == a1_1)) = false := by simpa using c18))
   (try (have c18b2 : (a0_0 == a1_0 && (a0_1 == a1_1)) = false := by simpa using c18))
   (try (have c18b3 : ¬ (a0_0 = a1_0 && (a0_1 == a1_1)) := by simpa using c18))
   clear c18
   obtain rfl := Option.some.inj H
   have hnb22 := NB342_343.out
   have hnc22 := NB343_342.out
   have hcz23_0 : wc.cell? ⟨gb342, 0, none⟩ = some (.int .i64 a0_0) := (blk_cell BK342.out 0).trans rfl
   have hcz23_1 : wc.cell? ⟨gb342, 1, none⟩ = some (.int .u64 a0_1) := (blk_cell BK342.out 1).trans rfl
   have hfz23_0 := blk_frozen BK342.out 0
   have hfz23_1 := blk_frozen BK342.out 1
   have hcz24_0 : wc.cell? ⟨gb343, 0, none⟩ = some (.int .i64 a1_0) := (blk_cell BK343.out 0).trans rfl
   have hcz24_1 : wc.cell? ⟨gb343, 1, none⟩ = some (.int .u64 a1_1) := (blk_cell BK343.out 1).trans rfl
   have hfz24_0 := blk_frozen BK343.out 0
   have hfz24_1 := blk_frozen BK343.out 1
   rotate_left
   all_goals go_wp2
   all_goals (go_ret; exact bF)
end Go.Proofs.Ytlifeghjcgbfnaa.G
