-- Written by a program of this session out of the translation; Lean checks it.
import Derived.Test.YtjmibjmlihmglaaGx0
import Derived.Test.YtjmibjmlihmglaaGx2
import Derived.Test.YtjmibjmlihmglaaGx12
import Derived.Test.YtjmibjmlihmglaaGx13
namespace Go.Proofs.Ytjmibjmlihmglaa.G
open Go.RowKit Go.Proofs.YtjmibjmlihmglaaW.PrintWords Go.Proofs.YtjmibjmlihmglaaW.PrintLast Go.Proofs.YtjmibjmlihmglaaW.PrintMore
attribute [local go_sem] max2_int min2_int max_two min_two max_three min_three max_four min_four   -- for this text's walks alone
set_option linter.unusedVariables false
set_option linter.unusedSimpArgs false

attribute [local go_sem high] eqA90
/-! ### apogeeref01_Mul: function 81 -/
def apogeeref01_Mul.l0 : Nat → Int → Int → Int → Int → Int → Int → Int → Option (Int × Int)
 | 0, _, _, _, _, _, _, _ => none
 | k + 1, x1, x7, x8, x393000, x393001, x394000, x394001 => if x8 < 64 then (if 0 ≤ x8 then (if (Go.bits .and .u64 (shr .u64 x7 x8) 1) = 1 then ((apogeeref01_plus.f k x394000 x394001 x393000 x393001).bind fun bt394 => ((apogeeref01_plus.f k x393000 x393001 x393000 x393001).bind fun bt396 => (apogeeref01_Mul.l0 k x1 x7 (wrap64 (x8 + 1)) bt396.1 bt396.2 bt394.1 bt394.2))) else ((apogeeref01_plus.f k x393000 x393001 x393000 x393001).bind fun bt398 => (apogeeref01_Mul.l0 k x1 x7 (wrap64 (x8 + 1)) bt398.1 bt398.2 x394000 x394001))) else (none)) else (if x1 < 0 then ((apogeeref01_Flip.f k x393000 x393001).bind fun bt400 => ((apogeeref01_plus.f k x394000 x394001 bt400.1 bt400.2).bind fun bt402 => (some (bt402.1, bt402.2)))) else (some (x394000, x394001)))
def apogeeref01_Mul.f (k : Nat) (a0 : Int) (a1 : Int) : Option (Int × Int) := (apogeeref01_Of.f a0).bind fun bt390 => (apogeeref01_Mul.l0 k a1 (IntKind.u64.wrap (a1)) 0 bt390.1 bt390.2 0 0)
theorem apogeeref01_Mul.mono_l : ∀ k, (∀ y0 y1 y2 y3 y4 y5 y6, LeO (apogeeref01_Mul.l0 k y0 y1 y2 y3 y4 y5 y6) (apogeeref01_Mul.l0 (k + 1) y0 y1 y2 y3 y4 y5 y6))
 | 0 => fun _ _ _ _ _ _ _ r h => by simp [apogeeref01_Mul.l0] at h
 | k + 1 => by
  have ih0 := apogeeref01_Mul.mono_l k
  ·intro y0 y1 y2 y3 y4 y5 y6
   unfold apogeeref01_Mul.l0
   have m0_ := @apogeeref01_Flip.mono
   have m1_ := @apogeeref01_plus.mono
   exact bMo
theorem apogeeref01_Mul.mono : ∀ a0 a1 k, LeO (apogeeref01_Mul.f k a0 a1) (apogeeref01_Mul.f (k + 1) a0 a1) := by
 intro a0 a1 k
 have ih0 := apogeeref01_Mul.mono_l k
 unfold apogeeref01_Mul.f
 have m0_ := @apogeeref01_Flip.mono
 have m1_ := @apogeeref01_plus.mono
 exact bMo
set_option maxHeartbeats 8000000 in
set_option maxRecDepth 100000 in
theorem apogeeref01_Mul.calls (k : Nat) (a0 : Int) (a1 : Int) (r1 : Int) (r2 : Int) (w : World) (h : apogeeref01_Mul.f k a0 a1 = some (r1, r2)) :
  Calls Try.prog 81 #[.int .i64 a0, .int .i64 a1] w fun e w' => e = .returned (.agg #[.int .i64 r1, .int .u64 r2]) ∧ Below w.heap.size w w' := by
 have hu90 := Try.underlying90
 have HB := bA (Below.refl w.heap.size w)
 have H : ((apogeeref01_Of.f a0).bind fun bt390 => (apogeeref01_Mul.l0 k a1 (IntKind.u64.wrap (a1)) 0 bt390.1 bt390.2 0 0)) = some (r1, r2) := h
 clear h
 replace H := Option.bind_eq_some_iff.mp H
 obtain ⟨⟨t390, t391⟩, A30, H⟩ := H
 replace H : (apogeeref01_Mul.l0 k a1 (IntKind.u64.wrap (a1)) 0 t390 t391 0 0) = some (r1, r2) := H
 have A3 := bA A30
 clear A30
 have H' := bA H
 clear H
 go_enter Try.func81, Try.ntmps81
 go_wp2_with (first | ((with_reducible refine gate_dst (N := 4) rfl ?_); refine bE (N := 4) (cs := #[.int .i64 0, .int .u64 0]) (t := 90) ?_; intro gb389 hg w4 hbox hb; have BK389 := bA (hbox); have GW389 := bA (bZ hg); have GE389 := bA (bZ hg); replace HB := bA (bS hb); clear hb hbox hg) | ((first | ((with_reducible refine gate_callee (f := 110) rfl ?_); refine bC (some 10) Try.func110 #[.int .i64 a0] ?_) | go_at_call 110); (with_reducible refine (apogeeref01_Of.calls a0 t390 t391 _ A3.out).mono ?_); rintro e w5 ⟨rfl, hb⟩; (first | refine ⟨_, rfl, ?_⟩ | skip); replace BK389 := bA (bB BK389 hb); replace HB := bA (bS hb); (try clear hb)) | ((with_reducible refine gate_dst (N := 5) rfl ?_); refine bE (N := 5) (cs := #[.int .i64 0, .int .u64 0]) (t := 90) ?_; intro gb392 hg w6 hbox hb; have BK392 := bA (hbox); have GW392 := bA (bZ hg); have GE392 := bA (bZ hg); have NB389_392 := bA (bL BK389 hg); have NB392_389 := bA (bG BK389 hg); replace BK389 := bA (bB BK389 hb); replace HB := bA (bS hb); clear hb hbox hg; have hnb7 := NB392_389.out; have hnc7 := NB389_392.out; obtain ⟨hcz8_0, hcz8_1, hfz8_0, hfz8_1⟩ := bc2 BK392) | ((with_reducible refine gate_dst (N := 6) rfl ?_); refine bE (N := 6) (cs := #[.int .i64 0, .int .u64 0]) (t := 90) ?_; intro gb393 hg w9 hbox hb; have BK393 := bA (hbox); have GW393 := bA (bZ hg); have GE393 := bA (bZ hg); have NB389_393 := bA ((by rw [hg]; exact Nat.ne_of_lt (blk_lt (g := gb389) (o := .cells #[.int .i64 0, .int .u64 0] 90 (0, 0)) (by (repeat ((with_reducible repeat (first | refine blk_drewN ?_ _ | refine blk_drew ?_ | refine blk_alloc ?_ _)); refine blk_far ?_ NB389_392.out _)); (with_reducible repeat (first | refine blk_drewN ?_ _ | refine blk_drew ?_ | refine blk_alloc ?_ _)); exact BK389.out)) : gb389 ≠ gb393)); have NB393_389 := bA ((by rw [hg]; exact Nat.ne_of_gt (blk_lt (g := gb389) (o := .cells #[.int .i64 0, .int .u64 0] 90 (0, 0)) (by (repeat ((with_reducible repeat (first | refine blk_drewN ?_ _ | refine blk_drew ?_ | refine blk_alloc ?_ _)); refine blk_far ?_ NB389_392.out _)); (with_reducible repeat (first | refine blk_drewN ?_ _ | refine blk_drew ?_ | refine blk_alloc ?_ _)); exact BK389.out)) : gb393 ≠ gb389)); have NB392_393 := bA ((by rw [hg]; exact Nat.ne_of_lt (blk_lt (g := gb392) (o := .cells #[.int .i64 t390, .int .u64 t391] 90 (0, 0)) (by (with_reducible repeat (first | refine blk_drewN ?_ _ | refine blk_drew ?_ | refine blk_alloc ?_ _)); refine blk_put (cs := #[.int .i64 t390, .int .u64 0]) ?_ 1 _ rfl; (with_reducible repeat (first | refine blk_drewN ?_ _ | refine blk_drew ?_ | refine blk_alloc ?_ _)); refine blk_put (cs := #[.int .i64 0, .int .u64 0]) ?_ 0 _ rfl; (with_reducible repeat (first | refine blk_drewN ?_ _ | refine blk_drew ?_ | refine blk_alloc ?_ _)); exact BK392.out)) : gb392 ≠ gb393)); have NB393_392 := bA ((by rw [hg]; exact Nat.ne_of_gt (blk_lt (g := gb392) (o := .cells #[.int .i64 t390, .int .u64 t391] 90 (0, 0)) (by (with_reducible repeat (first | refine blk_drewN ?_ _ | refine blk_drew ?_ | refine blk_alloc ?_ _)); refine blk_put (cs := #[.int .i64 t390, .int .u64 0]) ?_ 1 _ rfl; (with_reducible repeat (first | refine blk_drewN ?_ _ | refine blk_drew ?_ | refine blk_alloc ?_ _)); refine blk_put (cs := #[.int .i64 0, .int .u64 0]) ?_ 0 _ rfl; (with_reducible repeat (first | refine blk_drewN ?_ _ | refine blk_drew ?_ | refine blk_alloc ?_ _)); exact BK392.out)) : gb393 ≠ gb392)); replace BK389 := bA (blk_below (g := gb389) (o := .cells #[.int .i64 0, .int .u64 0] 90 (0, 0)) (by (repeat ((with_reducible repeat (first | refine blk_drewN ?_ _ | refine blk_drew ?_ | refine blk_alloc ?_ _)); refine blk_far ?_ NB389_392.out _)); (with_reducible repeat (first | refine blk_drewN ?_ _ | refine blk_drew ?_ | refine blk_alloc ?_ _)); exact BK389.out) hb); replace BK392 := bA (blk_below (g := gb392) (o := .cells #[.int .i64 t390, .int .u64 t391] 90 (0, 0)) (by (with_reducible repeat (first | refine blk_drewN ?_ _ | refine blk_drew ?_ | refine blk_alloc ?_ _)); refine blk_put (cs := #[.int .i64 t390, .int .u64 0]) ?_ 1 _ rfl; (with_reducible repeat (first | refine blk_drewN ?_ _ | refine blk_drew ?_ | refine blk_alloc ?_ _)); refine blk_put (cs := #[.int .i64 0, .int .u64 0]) ?_ 0 _ rfl; (with_reducible repeat (first | refine blk_drewN ?_ _ | refine blk_drew ?_ | refine blk_alloc ?_ _)); exact BK392.out) hb); replace HB := bA (bS hb); clear hb hbox hg; have hnb10 := NB393_389.out; have hnc10 := NB389_393.out; have hnb11 := NB393_392.out; have hnc11 := NB392_393.out; obtain ⟨hcz12_0, hcz12_1, hfz12_0, hfz12_1⟩ := bc2 BK393))
 go_loopg [8] k (fun kq v8 w' => ∃ (x8_1 : Int) (x393000_1 : Int) (x393001_1 : Int) (x394000_1 : Int) (x394001_1 : Int), v8 = .int .i64 x8_1 ∧ Aside0 (apogeeref01_Mul.l0 kq a1 (IntKind.u64.wrap (a1)) x8_1 x393000_1 x393001_1 x394000_1 x394001_1 = some (r1, r2)) ∧ Aside0 (kq ≤ k) ∧ Aside0 (w'.heap[gb389]? = some (.cells #[.int .i64 0, .int .u64 0] 90 (0, 0))) ∧ Aside0 (w'.heap[gb392]? = some (.cells #[.int .i64 x393000_1, .int .u64 x393001_1] 90 (0, 0))) ∧ Aside0 (w'.heap[gb393]? = some (.cells #[.int .i64 x394000_1, .int .u64 x394001_1] 90 (0, 0))) ∧ Aside0 (Below w.heap.size w w'))
 case atStart => exact ⟨(0), (t390), (t391), (0), (0), bs, H', ⟨Nat.le_refl _⟩, ⟨by (repeat ((with_reducible repeat (first | refine blk_drewN ?_ _ | refine blk_drew ?_ | refine blk_alloc ?_ _)); refine blk_far ?_ NB389_393.out _)); (with_reducible repeat (first | refine blk_drewN ?_ _ | refine blk_drew ?_ | refine blk_alloc ?_ _)); exact BK389.out⟩, ⟨by (repeat ((with_reducible repeat (first | refine blk_drewN ?_ _ | refine blk_drew ?_ | refine blk_alloc ?_ _)); refine blk_far ?_ NB392_393.out _)); (with_reducible repeat (first | refine blk_drewN ?_ _ | refine blk_drew ?_ | refine blk_alloc ?_ _)); exact BK392.out⟩, ⟨by (with_reducible repeat (first | refine blk_drewN ?_ _ | refine blk_drew ?_ | refine blk_alloc ?_ _)); refine blk_put (cs := #[.int .i64 0, .int .u64 0]) ?_ 1 _ rfl; (with_reducible repeat (first | refine blk_drewN ?_ _ | refine blk_drew ?_ | refine blk_alloc ?_ _)); refine blk_put (cs := #[.int .i64 0, .int .u64 0]) ?_ 0 _ rfl; (with_reducible repeat (first | refine blk_drewN ?_ _ | refine blk_drew ?_ | refine blk_alloc ?_ _)); exact BK393.out⟩, ⟨bX⟩⟩
 clear H'
 try clear c1
 try clear p2
 try clear c7
 try clear c8
 try clear c10
 try clear c11
 try clear hcz12_0
 try clear hcz12_1
 try clear hcz8_0
 try clear hcz8_1
 try clear hfz12_0
 try clear hfz12_1
 try clear hfz8_0
 try clear hfz8_1
 obtain ⟨x8_1, x393000_1, x393001_1, x394000_1, x394001_1, rfl, HA, HK1, BK389, BK392, BK393, HB⟩ := hrel
 cases gk with
 | zero => exact absurd HA.out (by simp [apogeeref01_Mul.l0])
 | succ k1 =>
  have H := HA.out
  clear HA
  simp only [apogeeref01_Mul.l0] at H
  by_cases c13 : x8_1 < 64
  ·rw [if_pos c13] at H
   have c13b0 : decide (x8_1 < 64) = true := decide_eq_true c13
   clear c13
   by_cases c14 : 0 ≤ x8_1
   rw [if_pos c14] at H
   have c14b0 := eq_true c14
   have c14b1 : decide (0 ≤ x8_1) = true := decide_eq_true c14
   clear c14
   obtain ⟨ji15, hji15⟩ : ∃ j_ : Int, (shr .u64 (IntKind.u64.wrap (a1)) x8_1) = j_ := ⟨_, rfl⟩
   replace H : (if (Go.bits .and .u64 (ji15) 1) = 1 then ((apogeeref01_plus.f k1 x394000_1 x394001_1 x393000_1 x393001_1).bind fun bt394 => ((apogeeref01_plus.f k1 x393000_1 x393001_1 x393000_1 x393001_1).bind fun bt396 => (apogeeref01_Mul.l0 k1 a1 (IntKind.u64.wrap (a1)) (wrap64 (x8_1 + 1)) bt396.1 bt396.2 bt394.1 bt394.2))) else ((apogeeref01_plus.f k1 x393000_1 x393001_1 x393000_1 x393001_1).bind fun bt398 => (apogeeref01_Mul.l0 k1 a1 (IntKind.u64.wrap (a1)) (wrap64 (x8_1 + 1)) bt398.1 bt398.2 x394000_1 x394001_1))) = some (r1, r2) := by first | (rw [hji15] at H; exact H) | (simp only [hji15] at H ⊢; exact H)
   have hji15_ : ((IntKind.u64.wrap (a1)) / 2 ^ min x8_1.toNat 64) = ji15 := hji15
   have hji15z : x8_1 ≤ 64 → ((IntKind.u64.wrap (a1)) / 2 ^ x8_1.toNat) = ji15 := shr_small hji15
   by_cases c16 : (Go.bits .and .u64 (ji15) 1) = 1
   rw [if_pos c16] at H
   have c16b0 : ((Go.bits .and .u64 (ji15) 1) == 1) = true := beq_iff_eq.mpr c16
   have c16b1 : ((Go.bits .and .u64 (ji15) 1) != 1) = false := bne_eq_false_iff_eq.mpr c16
   clear c16
   replace H := Option.bind_eq_some_iff.mp H
   obtain ⟨⟨t394, t395⟩, A170, H⟩ := H
   replace H : ((apogeeref01_plus.f k1 x393000_1 x393001_1 x393000_1 x393001_1).bind fun bt396 => (apogeeref01_Mul.l0 k1 a1 (IntKind.u64.wrap (a1)) (wrap64 (x8_1 + 1)) bt396.1 bt396.2 t394 t395)) = some (r1, r2) := H
   have A17 := bA A170
   clear A170
   replace H := Option.bind_eq_some_iff.mp H
   obtain ⟨⟨t396, t397⟩, A180, H⟩ := H
   replace H : (apogeeref01_Mul.l0 k1 a1 (IntKind.u64.wrap (a1)) (wrap64 (x8_1 + 1)) t396 t397 t394 t395) = some (r1, r2) := H
   have A18 := bA A180
   clear A180
   have H' := bA H
   clear H
   have hnb19 := NB393_389.out
   have hnc19 := NB389_393.out
   have hnb20 := NB393_392.out
   have hnc20 := NB392_393.out
   obtain ⟨hcz21_0, hcz21_1, hfz21_0, hfz21_1⟩ := bc2 BK393
   have hnb22 := NB392_389.out
   have hnc22 := NB389_392.out
   obtain ⟨hcz23_0, hcz23_1, hfz23_0, hfz23_1⟩ := bc2 BK392
   rotate_left
   rw [if_neg c16] at H
   have c16b0 : ((Go.bits .and .u64 (ji15) 1) == 1) = false := beq_eq_false_iff_ne.mpr c16
   have c16b1 : ((Go.bits .and .u64 (ji15) 1) != 1) = true := bne_iff_ne.mpr c16
   replace H := Option.bind_eq_some_iff.mp H
   obtain ⟨⟨t398, t399⟩, A290, H⟩ := H
   replace H : (apogeeref01_Mul.l0 k1 a1 (IntKind.u64.wrap (a1)) (wrap64 (x8_1 + 1)) t398 t399 x394000_1 x394001_1) = some (r1, r2) := H
   have A29 := bA A290
   clear A290
   have H' := bA H
   clear H
   have hnb30 := NB392_389.out
   have hnc30 := NB389_392.out
   have hnb31 := NB392_393.out
   have hnc31 := NB393_392.out
   obtain ⟨hcz32_0, hcz32_1, hfz32_0, hfz32_1⟩ := bc2 BK392
   rotate_left
   rw [if_neg c14] at H
   exact absurd H (by simp)
   all_goals go_wp2_with (first | ((first | ((with_reducible refine gate_callee (f := 109) rfl ?_); refine bC (some 25) Try.func109 #[.agg #[.int .i64 x394000_1, .int .u64 x394001_1], .agg #[.int .i64 x393000_1, .int .u64 x393001_1]] ?_) | go_at_call 109); (with_reducible refine (apogeeref01_plus.calls k1 x394000_1 x394001_1 x393000_1 x393001_1 t394 t395 _ A17.out).mono ?_); rintro e wz0 ⟨rfl, hb⟩; (first | refine ⟨_, rfl, ?_⟩ | skip); replace BK389 := bA (bB BK389 hb); replace BK392 := bA (bB BK392 hb); replace BK393 := bA (bB BK393 hb); replace HB := bA (bS hb); (try clear hb); obtain ⟨hz1, hz2, hz3, hz4⟩ := bc2 BK393; obtain ⟨hz5, hz6, hz7, hz8⟩ := bc2 BK392) | ((first | ((with_reducible refine gate_callee (f := 109) rfl ?_); refine bC (some 28) Try.func109 #[.agg #[.int .i64 x393000_1, .int .u64 x393001_1], .agg #[.int .i64 x393000_1, .int .u64 x393001_1]] ?_) | go_at_call 109); (with_reducible refine (apogeeref01_plus.calls k1 x393000_1 x393001_1 x393000_1 x393001_1 t396 t397 _ A18.out).mono ?_); rintro e wz1 ⟨rfl, hb⟩; (first | refine ⟨_, rfl, ?_⟩ | skip); replace BK389 := bA (blk_below (g := gb389) (o := .cells #[.int .i64 0, .int .u64 0] 90 (0, 0)) (by (repeat ((with_reducible repeat (first | refine blk_drewN ?_ _ | refine blk_drew ?_ | refine blk_alloc ?_ _)); refine blk_far ?_ NB389_393.out _)); (with_reducible repeat (first | refine blk_drewN ?_ _ | refine blk_drew ?_ | refine blk_alloc ?_ _)); exact BK389.out) hb); replace BK392 := bA (blk_below (g := gb392) (o := .cells #[.int .i64 x393000_1, .int .u64 x393001_1] 90 (0, 0)) (by (repeat ((with_reducible repeat (first | refine blk_drewN ?_ _ | refine blk_drew ?_ | refine blk_alloc ?_ _)); refine blk_far ?_ NB392_393.out _)); (with_reducible repeat (first | refine blk_drewN ?_ _ | refine blk_drew ?_ | refine blk_alloc ?_ _)); exact BK392.out) hb); replace BK393 := bA (blk_below (g := gb393) (o := .cells #[.int .i64 t394, .int .u64 t395] 90 (0, 0)) (by (with_reducible repeat (first | refine blk_drewN ?_ _ | refine blk_drew ?_ | refine blk_alloc ?_ _)); refine blk_put (cs := #[.int .i64 t394, .int .u64 x394001_1]) ?_ 1 _ rfl; (with_reducible repeat (first | refine blk_drewN ?_ _ | refine blk_drew ?_ | refine blk_alloc ?_ _)); refine blk_put (cs := #[.int .i64 x394000_1, .int .u64 x394001_1]) ?_ 0 _ rfl; (with_reducible repeat (first | refine blk_drewN ?_ _ | refine blk_drew ?_ | refine blk_alloc ?_ _)); exact BK393.out) hb); replace HB := bA (bS hb); (try clear hb); obtain ⟨hz9, hz10, hz7, hz8⟩ := bc2 BK392) | ((first | ((with_reducible refine gate_callee (f := 109) rfl ?_); refine bC (some 28) Try.func109 #[.agg #[.int .i64 x393000_1, .int .u64 x393001_1], .agg #[.int .i64 x393000_1, .int .u64 x393001_1]] ?_) | go_at_call 109); (with_reducible refine (apogeeref01_plus.calls k1 x393000_1 x393001_1 x393000_1 x393001_1 t398 t399 _ A29.out).mono ?_); rintro e wz0 ⟨rfl, hb⟩; (first | refine ⟨_, rfl, ?_⟩ | skip); replace BK389 := bA (bB BK389 hb); replace BK392 := bA (bB BK392 hb); replace BK393 := bA (bB BK393 hb); replace HB := bA (bS hb); (try clear hb); obtain ⟨hz5, hz6, hz7, hz8⟩ := bc2 BK392))
   ·go_roundg k1
    case measure => have := HK1.out; omega
    case rel => exact ⟨(wrap64 (x8_1 + 1)), (t396), (t397), (t394), (t395), bs, H', ⟨by have := HK1.out; omega⟩, ⟨by (repeat ((with_reducible repeat (first | refine blk_drewN ?_ _ | refine blk_drew ?_ | refine blk_alloc ?_ _)); refine blk_far ?_ NB389_392.out _)); (with_reducible repeat (first | refine blk_drewN ?_ _ | refine blk_drew ?_ | refine blk_alloc ?_ _)); exact BK389.out⟩, ⟨by (with_reducible repeat (first | refine blk_drewN ?_ _ | refine blk_drew ?_ | refine blk_alloc ?_ _)); refine blk_put (cs := #[.int .i64 t396, .int .u64 x393001_1]) ?_ 1 _ rfl; (with_reducible repeat (first | refine blk_drewN ?_ _ | refine blk_drew ?_ | refine blk_alloc ?_ _)); refine blk_put (cs := #[.int .i64 x393000_1, .int .u64 x393001_1]) ?_ 0 _ rfl; (with_reducible repeat (first | refine blk_drewN ?_ _ | refine blk_drew ?_ | refine blk_alloc ?_ _)); exact BK392.out⟩, ⟨by (repeat ((with_reducible repeat (first | refine blk_drewN ?_ _ | refine blk_drew ?_ | refine blk_alloc ?_ _)); refine blk_far ?_ NB393_392.out _)); (with_reducible repeat (first | refine blk_drewN ?_ _ | refine blk_drew ?_ | refine blk_alloc ?_ _)); exact BK393.out⟩, ⟨bX⟩⟩
   go_roundg k1
   case measure => have := HK1.out; omega
   case rel => exact ⟨(wrap64 (x8_1 + 1)), (t398), (t399), (x394000_1), (x394001_1), bs, H', ⟨by have := HK1.out; omega⟩, ⟨by (repeat ((with_reducible repeat (first | refine blk_drewN ?_ _ | refine blk_drew ?_ | refine blk_alloc ?_ _)); refine blk_far ?_ NB389_392.out _)); (with_reducible repeat (first | refine blk_drewN ?_ _ | refine blk_drew ?_ | refine blk_alloc ?_ _)); exact BK389.out⟩, ⟨by (with_reducible repeat (first | refine blk_drewN ?_ _ | refine blk_drew ?_ | refine blk_alloc ?_ _)); refine blk_put (cs := #[.int .i64 t398, .int .u64 x393001_1]) ?_ 1 _ rfl; (with_reducible repeat (first | refine blk_drewN ?_ _ | refine blk_drew ?_ | refine blk_alloc ?_ _)); refine blk_put (cs := #[.int .i64 x393000_1, .int .u64 x393001_1]) ?_ 0 _ rfl; (with_reducible repeat (first | refine blk_drewN ?_ _ | refine blk_drew ?_ | refine blk_alloc ?_ _)); exact BK392.out⟩, ⟨by (repeat ((with_reducible repeat (first | refine blk_drewN ?_ _ | refine blk_drew ?_ | refine blk_alloc ?_ _)); refine blk_far ?_ NB393_392.out _)); (with_reducible repeat (first | refine blk_drewN ?_ _ | refine blk_drew ?_ | refine blk_alloc ?_ _)); exact BK393.out⟩, ⟨bX⟩⟩
  rw [if_neg c13] at H
  have c13b0 : decide (x8_1 < 64) = false := decide_eq_false c13
  clear c13
  by_cases c35 : a1 < 0
  rotate_left
  ·rw [if_neg c35] at H
   have c35b0 : decide (a1 < 0) = false := decide_eq_false c35
   clear c35
   simp only [Option.some.injEq, Prod.mk.injEq] at H
   obtain ⟨rfl, rfl⟩ := H
   have hnb48 := NB393_389.out
   have hnc48 := NB389_393.out
   have hnb49 := NB393_392.out
   have hnc49 := NB392_393.out
   obtain ⟨hcz50_0, hcz50_1, hfz50_0, hfz50_1⟩ := bc2 BK393
   have hnb51 := NB389_392.out
   have hnc51 := NB392_389.out
   obtain ⟨hcz52_0, hcz52_1, hfz52_0, hfz52_1⟩ := bc2 BK389
   go_wp2
   refine bodyPost_ret (results_cell_row rfl _ _ gb389 90 #[.int .i64 x394000_1, .int .u64 x394001_1] (0, 0) _ rfl (by (with_reducible repeat (first | refine blk_drewN ?_ _ | refine blk_drew ?_ | refine blk_alloc ?_ _)); refine blk_put (cs := #[.int .i64 x394000_1, .int .u64 0]) ?_ 1 _ rfl; (with_reducible repeat (first | refine blk_drewN ?_ _ | refine blk_drew ?_ | refine blk_alloc ?_ _)); refine blk_put (cs := #[.int .i64 0, .int .u64 0]) ?_ 0 _ rfl; (with_reducible repeat (first | refine blk_drewN ?_ _ | refine blk_drew ?_ | refine blk_alloc ?_ _)); exact BK389.out) Try.underlying90 rfl (by kernel_rfl)) rfl ?_
   exact bF
  rw [if_pos c35] at H
  have c35b0 : decide (a1 < 0) = true := decide_eq_true c35
  clear c35
  replace H := Option.bind_eq_some_iff.mp H
  obtain ⟨⟨t400, t401⟩, A360, H⟩ := H
  replace H : ((apogeeref01_plus.f k1 x394000_1 x394001_1 t400 t401).bind fun bt402 => (some (bt402.1, bt402.2))) = some (r1, r2) := H
  have A36 := bA A360
  clear A360
  replace H := Option.bind_eq_some_iff.mp H
  obtain ⟨⟨t402, t403⟩, A370, H⟩ := H
  replace H : (some (t402, t403)) = some (r1, r2) := H
  have A37 := bA A370
  clear A370
  simp only [Option.some.injEq, Prod.mk.injEq] at H
  obtain ⟨rfl, rfl⟩ := H
  try go_wp2
  replace BK389 := bA (blk_drew BK389.out)
  replace BK392 := bA (blk_drew BK392.out)
  replace BK393 := bA (blk_drew BK393.out)
  replace HB := bA (below_drew1 HB.out)
  refine start_ (n := 5) (S := fun w' => w'.cell? ⟨gb393, 0, none⟩ = some (.int .i64 x394000_1) ∧ w'.cell? ⟨gb393, 1, none⟩ = some (.int .u64 x394001_1) ∧ w'.cell? ⟨gb392, 0, none⟩ = some (.int .i64 x393000_1) ∧ w'.cell? ⟨gb392, 1, none⟩ = some (.int .u64 x393001_1)) (ds := [4]) #[false, false, false, false, false] (by kernel_rfl) rfl rfl ⟨bq BK393 0, bq BK393 1, bq BK392 0, bq BK392 1⟩ (fun hHeld => ?_)
  generalize wr.drew = w38 at BK389 BK392 BK393 HB hHeld ⊢
  refine take_ (i := 0) (N := some 31) (v := ?_) (a' := ?_) #[true, false, false, false, false] rfl rfl (by kernel_rfl) (fun _ _ _ h => h) (Or.inl ⟨by rfl, ?_⟩) hHeld ?_ ?_
  rotate_left
  ·rintro w' ⟨s0, s1, s2, s3⟩
   go_simp
   with_reducible rfl
  rotate_left
  ·simp only [Act.put, List.setIfInBounds_toArray, List.set_cons_zero, List.set_cons_succ, i64_w, i32_w]
   rfl
  refine take_ (i := 1) (N := some 32) (v := ?_) (a' := ?_) #[true, true, false, false, false] rfl rfl (by kernel_rfl) (fun _ _ _ h => h) (Or.inl ⟨by rfl, ?_⟩) hHeld ?_ ?_
  rotate_left
  ·rintro w' ⟨s0, s1, s2, s3⟩
   go_simp
   with_reducible rfl
  rotate_left
  ·simp only [Act.put, List.setIfInBounds_toArray, List.set_cons_zero, List.set_cons_succ, i64_w, i32_w]
   rfl
  refine one_ (i := 2) (N := some 33) #[true, true, true, false, false] rfl rfl (by kernel_rfl) (by decide) (fun K hK => ?_)
  refine goes_ Try.func111 (by kernel_rfl) rfl #[.agg #[.int .i64 x393000_1, .int .u64 x393001_1]] (by rfl) rfl rfl (by (try simp only [List.map_toArray, List.map_cons, List.map_nil]); first | done | rfl | (simp only [List.length_drop, List.length_take]; rfl)) ?_
  with_reducible refine (apogeeref01_Flip.calls k1 x393000_1 x393001_1 t400 t401 _ A36.out).mono ?_
  rintro e w39 ⟨rfl, hb⟩
  refine ⟨_, rfl, ?_⟩
  replace BK389 := bA (bB BK389 hb)
  replace BK392 := bA (bB BK392 hb)
  replace BK393 := bA (bB BK393 hb)
  replace HB := bA (bS hb)
  (try clear hb)
  refine hK.out _ _ ⟨bq BK393 0, bq BK393 1, bq BK392 0, bq BK392 1⟩ (fun hHeld => ?_)
  clear hK K
  refine bI 33 ?_
  refine one_ (i := 3) (N := some 34) #[true, true, true, true, false] rfl rfl (by kernel_rfl) (by decide) (fun K hK => ?_)
  refine goes_ Try.func109 (by kernel_rfl) rfl #[.agg #[.int .i64 x394000_1, .int .u64 x394001_1], .agg #[.int .i64 t400, .int .u64 t401]] (by rfl) rfl rfl (by (try simp only [List.map_toArray, List.map_cons, List.map_nil]); first | done | rfl | (simp only [List.length_drop, List.length_take]; rfl)) ?_
  with_reducible refine (apogeeref01_plus.calls k1 x394000_1 x394001_1 t400 t401 t402 t403 _ A37.out).mono ?_
  rintro e w40 ⟨rfl, hb⟩
  refine ⟨_, rfl, ?_⟩
  replace BK389 := bA (bB BK389 hb)
  replace BK392 := bA (bB BK392 hb)
  replace BK393 := bA (bB BK393 hb)
  replace HB := bA (bS hb)
  (try clear hb)
  refine hK.out _ _ ⟨bq BK393 0, bq BK393 1, bq BK392 0, bq BK392 1⟩ (fun hHeld => ?_)
  clear hK K
  refine bI 34 ?_
  refine last_ (i := 4) (N := none) #[true, true, true, true, true] rfl rfl (by kernel_rfl) (by decide) (fun K hK => ?_)
  have hs41 : w40.cell? ⟨gb393, 0, none⟩ = some (.int .i64 x394000_1) := bq BK393 0
  have hfs41 := blk_frozen BK393.out 0
  have hns41_0 := NB389_393.out
  have hns41_1 := NB392_393.out
  have hms41_0 := NB393_389.out
  have hms41_1 := NB393_392.out
  have hs42 : w40.cell? ⟨gb393, 1, none⟩ = some (.int .u64 x394001_1) := bq BK393 1
  have hfs42 := blk_frozen BK393.out 1
  have hns42_0 := NB389_393.out
  have hns42_1 := NB392_393.out
  have hms42_0 := NB393_389.out
  have hms42_1 := NB393_392.out
  refine skip_ (w1 := ?_) (by rfl) rfl ?_ ?_
  rotate_left
  ·go_simp
   rfl
  refine hK.out _ _ ?_
  clear hK K
  refine done_ (by kernel_rfl) ?_
  have hnb43 := NB393_389.out
  have hnc43 := NB389_393.out
  have hnb44 := NB393_392.out
  have hnc44 := NB392_393.out
  obtain ⟨hcz45_0, hcz45_1, hfz45_0, hfz45_1⟩ := bc2 BK393
  have hnb46 := NB389_392.out
  have hnc46 := NB392_389.out
  obtain ⟨hcz47_0, hcz47_1, hfz47_0, hfz47_1⟩ := bc2 BK389
  try go_wp2
  refine bodyPost_ret (results_cell_row rfl _ _ gb389 90 #[.int .i64 t402, .int .u64 t403] (0, 0) _ rfl (by (with_reducible repeat (first | refine blk_drewN ?_ _ | refine blk_drew ?_ | refine blk_alloc ?_ _)); refine blk_put (cs := #[.int .i64 t402, .int .u64 0]) ?_ 1 _ rfl; (with_reducible repeat (first | refine blk_drewN ?_ _ | refine blk_drew ?_ | refine blk_alloc ?_ _)); refine blk_put (cs := #[.int .i64 0, .int .u64 0]) ?_ 0 _ rfl; (repeat ((with_reducible repeat (first | refine blk_drewN ?_ _ | refine blk_drew ?_ | refine blk_alloc ?_ _)); refine blk_far ?_ NB389_393.out _)); (with_reducible repeat (first | refine blk_drewN ?_ _ | refine blk_drew ?_ | refine blk_alloc ?_ _)); exact BK389.out) Try.underlying90 rfl (by kernel_rfl)) rfl ?_
  exact bF
/-! ### apogeeref01_Cmp: function 83 -/
def apogeeref01_Cmp.j0 : Nat → Bool → Int → Int → Int → Int → Option (Int)
 | 0, _, _, _, _, _ => none
 | k + 1, x5, x405000, x405001, x406000, x406001 => if x5 = true then (some (-1)) else (if (x405000 == x406000 && (x405001 == x406001)) = true then (some 0) else (some 1))
def apogeeref01_Cmp.f (k : Nat) (a0_0 : Int) (a0_1 : Int) (a1_0 : Int) (a1_1 : Int) : Option (Int) := if a0_0 < a1_0 then (apogeeref01_Cmp.j0 k true a0_0 a0_1 a1_0 a1_1) else (if a0_0 = a1_0 then (apogeeref01_Cmp.j0 k (decide (a0_1 < a1_1)) a0_0 a0_1 a1_0 a1_1) else (apogeeref01_Cmp.j0 k false a0_0 a0_1 a1_0 a1_1))
theorem apogeeref01_Cmp.mono_l : ∀ k, (∀ y0 y1 y2 y3 y4, LeO (apogeeref01_Cmp.j0 k y0 y1 y2 y3 y4) (apogeeref01_Cmp.j0 (k + 1) y0 y1 y2 y3 y4))
 | 0 => fun _ _ _ _ _ r h => by simp [apogeeref01_Cmp.j0] at h
 | k + 1 => by
  have ih0 := apogeeref01_Cmp.mono_l k
  ·intro y0 y1 y2 y3 y4
   unfold apogeeref01_Cmp.j0
   exact bMo
theorem apogeeref01_Cmp.mono : ∀ a0 a1 a2 a3 k, LeO (apogeeref01_Cmp.f k a0 a1 a2 a3) (apogeeref01_Cmp.f (k + 1) a0 a1 a2 a3) := by
 intro a0 a1 a2 a3 k
 have ih0 := apogeeref01_Cmp.mono_l k
 unfold apogeeref01_Cmp.f
 exact bMo
set_option maxHeartbeats 8000000 in
set_option maxRecDepth 100000 in
theorem apogeeref01_Cmp.calls (k : Nat) (a0_0 : Int) (a0_1 : Int) (a1_0 : Int) (a1_1 : Int) (r : Int) (w : World) (h : apogeeref01_Cmp.f k a0_0 a0_1 a1_0 a1_1 = some r) :
  Calls Try.prog 83 #[.agg #[.int .i64 a0_0, .int .u64 a0_1], .agg #[.int .i64 a1_0, .int .u64 a1_1]] w fun e w' => e = .returned (.int .i64 r) ∧ Below w.heap.size w w' := by
 have hu90 := Try.underlying90
 have HB := bA (Below.refl w.heap.size w)
 have H : (if a0_0 < a1_0 then (apogeeref01_Cmp.j0 k true a0_0 a0_1 a1_0 a1_1) else (if a0_0 = a1_0 then (apogeeref01_Cmp.j0 k (decide (a0_1 < a1_1)) a0_0 a0_1 a1_0 a1_1) else (apogeeref01_Cmp.j0 k false a0_0 a0_1 a1_0 a1_1))) = some r := h
 clear h
 have HC3 := bA H
 clear H
 go_enter Try.func83, Try.ntmps83
 go_upto_region 1 with (first | ((with_reducible refine gate_dst (N := 2) rfl ?_); refine bE (N := 2) (cs := #[.int .i64 a0_0, .int .u64 a0_1]) (t := 90) ?_; intro gb404 hg w4 hbox hb; have n0_ := bA (bS hb); have n1_ := bA (hbox); have n2_ := bA (bZ hg); have n3_ := bA (bZ hg); clear HB; have HB := n0_; have BK404 := n1_; have GW404 := n2_; have GE404 := n3_; clear n0_ n1_ n2_ n3_; clear hb hbox hg) | ((with_reducible refine gate_dst (N := 3) rfl ?_); refine bE (N := 3) (cs := #[.int .i64 a1_0, .int .u64 a1_1]) (t := 90) ?_; intro gb405 hg w5 hbox hb; have n0_ := bA (bB BK404 hb); have n1_ := bA (bS hb); have n2_ := bA (hbox); have n3_ := bA (bZ hg); have n4_ := bA (bZ hg); have n5_ := bA (bL BK404 hg); have n6_ := bA (bG BK404 hg); clear BK404; clear HB; have BK404 := n0_; have HB := n1_; have BK405 := n2_; have GW405 := n3_; have GE405 := n4_; have NB404_405 := n5_; have NB405_404 := n6_; clear n0_ n1_ n2_ n3_ n4_ n5_ n6_; clear hb hbox hg))
 (try simp only [Act.put, List.setIfInBounds_toArray, List.set_cons_zero, List.set_cons_succ])
 go_cut [5] (fun v5 wc => ∃ (kq : Nat) (x5_2 : Bool), v5 = .bool x5_2 ∧ Aside0 (apogeeref01_Cmp.j0 kq x5_2 a0_0 a0_1 a1_0 a1_1 = some r) ∧ Aside0 (kq ≤ k) ∧ Aside0 (wc.heap[gb404]? = some (.cells #[.int .i64 a0_0, .int .u64 a0_1] 90 (0, 0))) ∧ Aside0 (wc.heap[gb405]? = some (.cells #[.int .i64 a1_0, .int .u64 a1_1] 90 (0, 0))) ∧ Aside0 (Below w.heap.size w wc))
 case first =>
  have H := HC3.out
  clear HC3
  by_cases c6 : a0_0 < a1_0
  rw [if_pos c6] at H
  have c6b0 : decide (a0_0 < a1_0) = true := decide_eq_true c6
  clear c6
  (first | rw [c6b0] | (simp only [i64_w, i32_w]; rw [c6b0]) | skip)
  have H' := bA H
  clear H
  have hnb7 := NB404_405.out
  have hnc7 := NB405_404.out
  obtain ⟨hcz8_0, hcz8_1, hfz8_0, hfz8_1⟩ := bc2 BK404
  obtain ⟨hcz9_0, hcz9_1, hfz9_0, hfz9_1⟩ := bc2 BK405
  rotate_left
  rw [if_neg c6] at H
  have c6b0 : decide (a0_0 < a1_0) = false := decide_eq_false c6
  clear c6
  (first | rw [c6b0] | (simp only [i64_w, i32_w]; rw [c6b0]) | skip)
  by_cases c10 : a0_0 = a1_0
  rw [if_pos c10] at H
  have c10b0 : (a0_0 == a1_0) = true := beq_iff_eq.mpr c10
  have c10b1 : (a0_0 != a1_0) = false := bne_eq_false_iff_eq.mpr c10
  clear c10
  have H' := bA H
  clear H
  have hnb11 := NB404_405.out
  have hnc11 := NB405_404.out
  obtain ⟨hcz12_0, hcz12_1, hfz12_0, hfz12_1⟩ := bc2 BK404
  obtain ⟨hcz13_0, hcz13_1, hfz13_0, hfz13_1⟩ := bc2 BK405
  rotate_left
  rw [if_neg c10] at H
  have c10b0 : (a0_0 == a1_0) = false := beq_eq_false_iff_ne.mpr c10
  have c10b1 : (a0_0 != a1_0) = true := bne_iff_ne.mpr c10
  have H' := bA H
  clear H
  have hnb14 := NB404_405.out
  have hnc14 := NB405_404.out
  obtain ⟨hcz15_0, hcz15_1, hfz15_0, hfz15_1⟩ := bc2 BK404
  obtain ⟨hcz16_0, hcz16_1, hfz16_0, hfz16_1⟩ := bc2 BK405
  rotate_left
  all_goals go_wp2
  ·go_meet
   case rel => exact ⟨_, (true), bs, H', ⟨by first | omega | exact Nat.le_refl _⟩, ⟨by (with_reducible repeat (first | refine blk_drewN ?_ _ | refine blk_drew ?_ | refine blk_alloc ?_ _)); exact BK404.out⟩, ⟨by (with_reducible repeat (first | refine blk_drewN ?_ _ | refine blk_drew ?_ | refine blk_alloc ?_ _)); exact BK405.out⟩, ⟨bX⟩⟩
  ·go_meet
   case rel => exact ⟨_, (decide (a0_1 < a1_1)), bs, H', ⟨by first | omega | exact Nat.le_refl _⟩, ⟨by (with_reducible repeat (first | refine blk_drewN ?_ _ | refine blk_drew ?_ | refine blk_alloc ?_ _)); exact BK404.out⟩, ⟨by (with_reducible repeat (first | refine blk_drewN ?_ _ | refine blk_drew ?_ | refine blk_alloc ?_ _)); exact BK405.out⟩, ⟨bX⟩⟩
  go_meet
  case rel => exact ⟨_, (false), bs, H', ⟨by first | omega | exact Nat.le_refl _⟩, ⟨by (with_reducible repeat (first | refine blk_drewN ?_ _ | refine blk_drew ?_ | refine blk_alloc ?_ _)); exact BK404.out⟩, ⟨by (with_reducible repeat (first | refine blk_drewN ?_ _ | refine blk_drew ?_ | refine blk_alloc ?_ _)); exact BK405.out⟩, ⟨bX⟩⟩
 clear HC3
 try clear c1
 try clear p2
 try clear c6
 try clear c6b0
 try clear c7
 try clear c8
 try clear c10
 try clear c10b0
 try clear c10b1
 try clear c11
 try clear c14
 try clear hcz12_0
 try clear hcz12_1
 try clear hcz13_0
 try clear hcz13_1
 try clear hcz15_0
 try clear hcz15_1
 try clear hcz16_0
 try clear hcz16_1
 try clear hcz8_0
 try clear hcz8_1
 try clear hcz9_0
 try clear hcz9_1
 try clear hfz12_0
 try clear hfz12_1
 try clear hfz13_0
 try clear hfz13_1
 try clear hfz15_0
 try clear hfz15_1
 try clear hfz16_0
 try clear hfz16_1
 try clear hfz8_0
 try clear hfz8_1
 try clear hfz9_0
 try clear hfz9_1
 obtain ⟨kq, x5_2, rfl, HA, HJ2, BK404, BK405, HB⟩ := hcut
 cases kq with
 | zero => exact absurd HA.out (by simp [apogeeref01_Cmp.j0])
 | succ kj2 =>
  have H := HA.out
  clear HA
  simp only [apogeeref01_Cmp.j0] at H
  by_cases c17 : x5_2 = true
  subst c17
  rw [if_pos rfl] at H
  obtain rfl := Option.some.inj H
  rotate_left
  replace c17 := Bool.eq_false_iff.mpr c17
  subst c17
  rw [if_neg bn] at H
  by_cases c18 : (a0_0 == a1_0 && (a0_1 == a1_1)) = true
  rw [if_pos c18] at H
  have c18b0 : (a0_0 == a1_0 && (a0_1 == a1_1)) = true := c18
  (try (have c18b1 : decide (a0_0 = a1_0 && (a0_1 == a1_1)) = true := by simpa using c18))
  (try (have c18b2 : (a0_0 == a1_0 && (a0_1 == a1_1)) = true := by simpa using c18))
  clear c18
  obtain rfl := Option.some.inj H
  have hnb19 := NB404_405.out
  have hnc19 := NB405_404.out
  obtain ⟨hcz20_0, hcz20_1, hfz20_0, hfz20_1⟩ := bc2 BK404
  obtain ⟨hcz21_0, hcz21_1, hfz21_0, hfz21_1⟩ := bc2 BK405
  rotate_left
  rw [if_neg c18] at H
  have c18b0 : (a0_0 == a1_0 && (a0_1 == a1_1)) = false := by simpa using c18
  (try (have c18b1 : decide (a0_0 = a1_0 && (a0_1 == a1_1)) = false := by simpa using c18))
  (try (have c18b2 : (a0_0 == a1_0 && (a0_1 == a1_1)) = false := by simpa using c18))
  (try (have c18b3 : ¬ (a0_0 = a1_0 && (a0_1 == a1_1)) := by simpa using c18))
  clear c18
  obtain rfl := Option.some.inj H
  have hnb22 := NB404_405.out
  have hnc22 := NB405_404.out
  obtain ⟨hcz23_0, hcz23_1, hfz23_0, hfz23_1⟩ := bc2 BK404
  obtain ⟨hcz24_0, hcz24_1, hfz24_0, hfz24_1⟩ := bc2 BK405
  rotate_left
  all_goals go_wp2
  all_goals (go_ret; exact bF)
end Go.Proofs.Ytjmibjmlihmglaa.G
