-- Written by a program of this session out of the translation; Lean checks it.
import Derived.Test.YtjmibjmlihmglaaGx0
import Derived.Test.YtjmibjmlihmglaaGx16
namespace Go.Proofs.Ytjmibjmlihmglaa.G
open Go.RowKit Go.Proofs.YtjmibjmlihmglaaW.PrintWords Go.Proofs.YtjmibjmlihmglaaW.PrintLast Go.Proofs.YtjmibjmlihmglaaW.PrintMore
attribute [local go_sem] max2_int min2_int max_two min_two max_three min_three max_four min_four   -- for this text's walks alone
set_option linter.unusedVariables false
set_option linter.unusedSimpArgs false

/-! ### apogeeref01_Add: function 80 -/
def apogeeref01_Add.f (k : Nat) (a0_0 : Int) (a0_1 : Int) (a1_0 : Int) (a1_1 : Int) : Option (Int × Int × Bool) := (apogeeref01_plus.f k a0_0 a0_1 a1_0 a1_1).bind fun bt474 => (if ((decide (a0_0 < 0)) == (decide (a1_0 < 0))) = true then (if ((decide (bt474.1 < 0)) != (decide (a0_0 < 0))) = true then (some (0, 0, false)) else (some (bt474.1, bt474.2, true))) else (some (bt474.1, bt474.2, true)))
theorem apogeeref01_Add.mono : ∀ a0 a1 a2 a3 k, LeO (apogeeref01_Add.f k a0 a1 a2 a3) (apogeeref01_Add.f (k + 1) a0 a1 a2 a3) := by
 intro a0 a1 a2 a3 k
 unfold apogeeref01_Add.f
 repeat' first
   | (with_reducible exact apogeeref01_plus.mono _ _ _ _ _)
   | (with_reducible exact LeO.refl _)
   | (with_reducible exact LeO.none _)
   | (with_reducible refine LeO.ite ?_ ?_)
   | (with_reducible refine LeO.bind ?_ (fun _ => ?_))
   | exact apogeeref01_plus.mono _ _ _ _ _
   | exact LeO.none _
   | refine LeO.ite ?_ ?_
   | refine LeO.bind ?_ (fun _ => ?_)
set_option maxHeartbeats 8000000 in
set_option maxRecDepth 100000 in
theorem apogeeref01_Add.calls (k : Nat) (a0_0 : Int) (a0_1 : Int) (a1_0 : Int) (a1_1 : Int) (r1 : Int) (r2 : Int) (r3 : Bool) (w : World) (h : apogeeref01_Add.f k a0_0 a0_1 a1_0 a1_1 = some (r1, r2, r3)) :
  Calls Try.prog 80 #[.agg #[.int .i64 a0_0, .int .u64 a0_1], .agg #[.int .i64 a1_0, .int .u64 a1_1]] w fun e w' => e = .returned (.tuple #[.agg #[.int .i64 r1, .int .u64 r2], .bool r3]) ∧ Below w.heap.size w w' := by
 have hu90 := Try.underlying90
 have HB := bA (Below.refl w.heap.size w)
 have H : ((apogeeref01_plus.f k a0_0 a0_1 a1_0 a1_1).bind fun bt474 => (if ((decide (a0_0 < 0)) == (decide (a1_0 < 0))) = true then (if ((decide (bt474.1 < 0)) != (decide (a0_0 < 0))) = true then (some (0, 0, false)) else (some (bt474.1, bt474.2, true))) else (some (bt474.1, bt474.2, true)))) = some (r1, r2, r3) := h
 clear h
 replace H := Option.bind_eq_some_iff.mp H
 obtain ⟨⟨t474, t475⟩, A30, H⟩ := H
 replace H : (if ((decide (a0_0 < 0)) == (decide (a1_0 < 0))) = true then (if ((decide (t474 < 0)) != (decide (a0_0 < 0))) = true then (some (0, 0, false)) else (some (t474, t475, true))) else (some (t474, t475, true))) = some (r1, r2, r3) := H
 have A3 := bA A30
 clear A30
 by_cases c4 : ((decide (a0_0 < 0)) == (decide (a1_0 < 0))) = true
 rw [if_pos c4] at H
 have c4b0 : ((decide (a0_0 < 0)) == (decide (a1_0 < 0))) = true := c4
 (try (have c4b1 : decide ((decide (a0_0 < 0)) = (decide (a1_0 < 0))) = true := by simpa using c4))
 (try (have c4b2 : ((decide (a0_0 < 0)) == (decide (a1_0 < 0))) = true := by simpa using c4))
 clear c4
 by_cases c5 : ((decide (t474 < 0)) != (decide (a0_0 < 0))) = true
 rw [if_pos c5] at H
 have c5b0 : ((decide (t474 < 0)) != (decide (a0_0 < 0))) = true := c5
 (try (have c5b1 : decide ((decide (t474 < 0)) = (decide (a0_0 < 0))) = false := by simpa using c5))
 (try (have c5b2 : ((decide (t474 < 0)) == (decide (a0_0 < 0))) = false := by simpa using c5))
 (try (have c5b3 : ¬ ((decide (t474 < 0)) = (decide (a0_0 < 0))) := by simpa using c5))
 clear c5
 simp only [Option.some.injEq, Prod.mk.injEq] at H
 obtain ⟨rfl, rfl, rfl⟩ := H
 rotate_left
 rw [if_neg c5] at H
 have c5b0 : ((decide (t474 < 0)) != (decide (a0_0 < 0))) = false := by simpa using c5
 (try (have c5b1 : decide ((decide (t474 < 0)) = (decide (a0_0 < 0))) = true := by simpa using c5))
 (try (have c5b2 : ((decide (t474 < 0)) == (decide (a0_0 < 0))) = true := by simpa using c5))
 clear c5
 simp only [Option.some.injEq, Prod.mk.injEq] at H
 obtain ⟨rfl, rfl, rfl⟩ := H
 rotate_left
 rw [if_neg c4] at H
 have c4b0 : ((decide (a0_0 < 0)) == (decide (a1_0 < 0))) = false := by simpa using c4
 (try (have c4b1 : decide ((decide (a0_0 < 0)) = (decide (a1_0 < 0))) = false := by simpa using c4))
 (try (have c4b2 : ((decide (a0_0 < 0)) == (decide (a1_0 < 0))) = false := by simpa using c4))
 (try (have c4b3 : ¬ ((decide (a0_0 < 0)) = (decide (a1_0 < 0))) := by simpa using c4))
 clear c4
 simp only [Option.some.injEq, Prod.mk.injEq] at H
 obtain ⟨rfl, rfl, rfl⟩ := H
 rotate_left
 all_goals go_enter Try.func80, Try.ntmps80
 all_goals go_wp2_with (first | ((with_reducible refine gate_dst (N := 2) rfl ?_); refine bE (N := 2) (cs := #[.int .i64 a0_0, .int .u64 a0_1]) (t := 90) ?_; intro gb471 hg wz0 hbox hb; have BK471 := bA (hbox); have GW471 := bA (bZ hg); have GE471 := bA (bZ hg); replace HB := bA (bS hb); clear hb hbox hg) | ((with_reducible refine gate_dst (N := 3) rfl ?_); refine bE (N := 3) (cs := #[.int .i64 a1_0, .int .u64 a1_1]) (t := 90) ?_; intro gb472 hg wz1 hbox hb; have BK472 := bA (hbox); have GW472 := bA (bZ hg); have GE472 := bA (bZ hg); have NB471_472 := bA (bL BK471 hg); have NB472_471 := bA (bG BK471 hg); replace BK471 := bA (bB BK471 hb); replace HB := bA (bS hb); clear hb hbox hg) | ((with_reducible refine gate_dst (N := 4) rfl ?_); refine bE (N := 4) (cs := #[.int .i64 0, .int .u64 0]) (t := 90) ?_; intro gb473 hg wz2 hbox hb; have BK473 := bA (hbox); have GW473 := bA (bZ hg); have GE473 := bA (bZ hg); have NB471_473 := bA (bL BK471 hg); have NB473_471 := bA (bG BK471 hg); have NB472_473 := bA (bL BK472 hg); have NB473_472 := bA (bG BK472 hg); replace BK471 := bA (bB BK471 hb); replace BK472 := bA (bB BK472 hb); replace HB := bA (bS hb); clear hb hbox hg; have hz1 := NB471_472.out; have hz2 := NB472_471.out; have hz3 := NB471_473.out; have hz4 := NB473_471.out; obtain ⟨hz5, hz6, hz7, hz8⟩ := bc2 BK471; have hz9 := NB472_473.out; have hz10 := NB473_472.out; obtain ⟨hz11, hz12, hz13, hz14⟩ := bc2 BK472) | ((first | ((with_reducible refine gate_callee (f := 109) rfl ?_); refine bC (some 9) Try.func109 #[.agg #[.int .i64 a0_0, .int .u64 a0_1], .agg #[.int .i64 a1_0, .int .u64 a1_1]] ?_) | go_at_call 109); (with_reducible refine (apogeeref01_plus.calls k a0_0 a0_1 a1_0 a1_1 t474 t475 _ A3.out).mono ?_); rintro e wz3 ⟨rfl, hb⟩; (first | refine ⟨_, rfl, ?_⟩ | skip); replace BK471 := bA (bB BK471 hb); replace BK472 := bA (bB BK472 hb); replace BK473 := bA (bB BK473 hb); replace HB := bA (bS hb); (try clear hb)) | ((with_reducible refine gate_dst (N := 6) rfl ?_); refine bE (N := 6) (cs := #[.int .i64 0, .int .u64 0]) (t := 90) ?_; intro gb476 hg wz4 hbox hb; have BK476 := bA (hbox); have GW476 := bA (bZ hg); have GE476 := bA (bZ hg); have NB471_476 := bA (bL BK471 hg); have NB476_471 := bA (bG BK471 hg); have NB472_476 := bA (bL BK472 hg); have NB476_472 := bA (bG BK472 hg); have NB473_476 := bA (bL BK473 hg); have NB476_473 := bA (bG BK473 hg); replace BK471 := bA (bB BK471 hb); replace BK472 := bA (bB BK472 hb); replace BK473 := bA (bB BK473 hb); replace HB := bA (bS hb); clear hb hbox hg; have hz15 := NB476_471.out; have hz16 := NB471_476.out; have hz17 := NB476_472.out; have hz18 := NB472_476.out; have hz19 := NB476_473.out; have hz20 := NB473_476.out; obtain ⟨hz21, hz22, hz23, hz24⟩ := bc2 BK476; obtain ⟨hz25, hz26, hz7, hz8⟩ := bc2 BK471; obtain ⟨hz27, hz28, hz13, hz14⟩ := bc2 BK472; obtain ⟨hz29, hz30, hz31, hz32⟩ := bc2 BK473))
 ·refine bodyPost_ret (results_ct rfl _ _ gb473 90 #[.int .i64 0, .int .u64 0] (0, 0) _ rfl (by (with_reducible repeat (first | refine blk_drewN ?_ _ | refine blk_drew ?_ | refine blk_alloc ?_ _)); refine blk_put (cs := #[.int .i64 0, .int .u64 0]) ?_ 1 _ rfl; (with_reducible repeat (first | refine blk_drewN ?_ _ | refine blk_drew ?_ | refine blk_alloc ?_ _)); refine blk_put (cs := #[.int .i64 0, .int .u64 0]) ?_ 0 _ rfl; (repeat ((with_reducible repeat (first | refine blk_drewN ?_ _ | refine blk_drew ?_ | refine blk_alloc ?_ _)); refine blk_far ?_ NB473_476.out _)); (with_reducible repeat (first | refine blk_drewN ?_ _ | refine blk_drew ?_ | refine blk_alloc ?_ _)); exact BK473.out) Try.underlying90 rfl (by kernel_rfl)) rfl ?_
  exact bF
 ·refine bodyPost_ret (results_ct rfl _ _ gb473 90 #[.int .i64 t474, .int .u64 t475] (0, 0) _ rfl (by (with_reducible repeat (first | refine blk_drewN ?_ _ | refine blk_drew ?_ | refine blk_alloc ?_ _)); refine blk_put (cs := #[.int .i64 t474, .int .u64 0]) ?_ 1 _ rfl; (with_reducible repeat (first | refine blk_drewN ?_ _ | refine blk_drew ?_ | refine blk_alloc ?_ _)); refine blk_put (cs := #[.int .i64 0, .int .u64 0]) ?_ 0 _ rfl; (repeat ((with_reducible repeat (first | refine blk_drewN ?_ _ | refine blk_drew ?_ | refine blk_alloc ?_ _)); refine blk_far ?_ NB473_476.out _)); (with_reducible repeat (first | refine blk_drewN ?_ _ | refine blk_drew ?_ | refine blk_alloc ?_ _)); exact BK473.out) Try.underlying90 rfl (by kernel_rfl)) rfl ?_
  exact bF
 refine bodyPost_ret (results_ct rfl _ _ gb473 90 #[.int .i64 t474, .int .u64 t475] (0, 0) _ rfl (by (with_reducible repeat (first | refine blk_drewN ?_ _ | refine blk_drew ?_ | refine blk_alloc ?_ _)); refine blk_put (cs := #[.int .i64 t474, .int .u64 0]) ?_ 1 _ rfl; (with_reducible repeat (first | refine blk_drewN ?_ _ | refine blk_drew ?_ | refine blk_alloc ?_ _)); refine blk_put (cs := #[.int .i64 0, .int .u64 0]) ?_ 0 _ rfl; (repeat ((with_reducible repeat (first | refine blk_drewN ?_ _ | refine blk_drew ?_ | refine blk_alloc ?_ _)); refine blk_far ?_ NB473_476.out _)); (with_reducible repeat (first | refine blk_drewN ?_ _ | refine blk_drew ?_ | refine blk_alloc ?_ _)); exact BK473.out) Try.underlying90 rfl (by kernel_rfl)) rfl ?_
 exact bF
end Go.Proofs.Ytjmibjmlihmglaa.G
