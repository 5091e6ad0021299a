-- Written by a program of this session out of the translation; Lean checks it.
import Derived.Test.YtlifeghjcgbfnaaGx0
import Derived.Test.YtlifeghjcgbfnaaGx3
namespace Go.Proofs.Ytlifeghjcgbfnaa.G
open Go.RowKit Go.Proofs.YtlifeghjcgbfnaaW.PrintWords Go.Proofs.YtlifeghjcgbfnaaW.PrintLast Go.Proofs.YtlifeghjcgbfnaaW.PrintMore
attribute [local go_sem] max2_int min2_int max_two min_two max_three min_three max_four min_four   -- for this text's walks alone
set_option linter.unusedVariables false
set_option linter.unusedSimpArgs false

attribute [local go_sem high] eqA62
/-! ### fall_within: function 32 -/
def fall_within.f (a0 : Int) (a1 : Int) (a2 : Int) : Option (Bool) := if a0 ≥ a1 then (some (decide (a0 ≤ a2))) else (some false)
set_option maxHeartbeats 8000000 in
set_option maxRecDepth 100000 in
theorem fall_within.calls (a0 : Int) (a1 : Int) (a2 : Int) (r : Bool) (w : World) (h : fall_within.f a0 a1 a2 = some r) :
  Calls Try.prog 32 #[.int .i64 a0, .int .i64 a1, .int .i64 a2] w fun e w' => e = .returned (.bool r) ∧ Drawn0 w w' := by
 have H : (if a0 ≥ a1 then (some (decide (a0 ≤ a2))) else (some false)) = some r := h
 clear h
 by_cases c4 : a0 ≥ a1
 rw [if_pos c4] at H
 have c4b0 : decide (a1 ≤ a0) = true := decide_eq_true c4
 clear c4
 obtain rfl := Option.some.inj H
 rotate_left
 rw [if_neg c4] at H
 have c4b0 : decide (a1 ≤ a0) = false := decide_eq_false c4
 clear c4
 obtain rfl := Option.some.inj H
 rotate_left
 all_goals go_enter Try.func32, Try.ntmps32
 all_goals go_wp2
 all_goals (go_ret; exact bD)
/-! ### fall_may: function 30 -/
def fall_may.f (a0 : Int) (a1 : Int) (a2 : Int) : Option (Bool) := (fall_within.f a0 (-2147483648) 2147483648).bind fun t101 => (if t101 = true then ((fall_within.f a1 (-131072) 131072).bind fun t102 => (if t102 = true then ((fall_within.f a2 1 100).bind fun t103 => (some t103)) else (some false))) else (some false))
set_option maxHeartbeats 8000000 in
set_option maxRecDepth 100000 in
theorem fall_may.calls (a0 : Int) (a1 : Int) (a2 : Int) (r : Bool) (w : World) (h : fall_may.f a0 a1 a2 = some r) :
  Calls Try.prog 30 #[.int .i64 a0, .int .i64 a1, .int .i64 a2] w fun e w' => e = .returned (.bool r) ∧ Drawn0 w w' := by
 have H : ((fall_within.f a0 (-2147483648) 2147483648).bind fun t101 => (if t101 = true then ((fall_within.f a1 (-131072) 131072).bind fun t102 => (if t102 = true then ((fall_within.f a2 1 100).bind fun t103 => (some t103)) else (some false))) else (some false))) = some r := h
 clear h
 replace H := Option.bind_eq_some_iff.mp H
 obtain ⟨t101, A40, H⟩ := H
 replace H : (if t101 = true then ((fall_within.f a1 (-131072) 131072).bind fun t102 => (if t102 = true then ((fall_within.f a2 1 100).bind fun t103 => (some t103)) else (some false))) else (some false)) = some r := H
 have A4 := bA A40
 clear A40
 by_cases c5 : t101 = true
 subst c5
 rw [if_pos rfl] at H
 replace H := Option.bind_eq_some_iff.mp H
 obtain ⟨t102, A60, H⟩ := H
 replace H : (if t102 = true then ((fall_within.f a2 1 100).bind fun t103 => (some t103)) else (some false)) = some r := H
 have A6 := bA A60
 clear A60
 by_cases c7 : t102 = true
 subst c7
 rw [if_pos rfl] at H
 replace H := Option.bind_eq_some_iff.mp H
 obtain ⟨t103, A80, H⟩ := H
 replace H : (some t103) = some r := H
 have A8 := bA A80
 clear A80
 obtain rfl := Option.some.inj H
 rotate_left
 replace c7 := Bool.eq_false_iff.mpr c7
 subst c7
 rw [if_neg (show ¬ (false = true) by decide)] at H
 obtain rfl := Option.some.inj H
 rotate_left
 replace c5 := Bool.eq_false_iff.mpr c5
 subst c5
 rw [if_neg (show ¬ (false = true) by decide)] at H
 obtain rfl := Option.some.inj H
 rotate_left
 all_goals go_enter Try.func30, Try.ntmps30
 all_goals go_wp2_with (first | ((first | ((with_reducible refine gate_callee (f := 32) rfl ?_); refine bC (some 8) Try.func32 #[.int .i64 a0, .int .i64 (-2147483648), .int .i64 2147483648] ?_) | go_at_call 32); (with_reducible refine (fall_within.calls a0 (-2147483648) 2147483648 true _ A4.out).mono ?_); rintro e w' ⟨rfl, ⟨nd, rfl⟩⟩; (first | refine ⟨_, rfl, ?_⟩ | skip)) | (go_at_call 32; (with_reducible refine (fall_within.calls a1 (-131072) 131072 true _ A6.out).mono ?_); rintro e w' ⟨rfl, ⟨nd, rfl⟩⟩) | (go_at_call 32; (with_reducible refine (fall_within.calls a2 1 100 t103 _ A8.out).mono ?_); rintro e w' ⟨rfl, ⟨nd, rfl⟩⟩) | (go_at_call 32; (with_reducible refine (fall_within.calls a1 (-131072) 131072 false _ A6.out).mono ?_); rintro e w' ⟨rfl, ⟨nd, rfl⟩⟩) | ((first | ((with_reducible refine gate_callee (f := 32) rfl ?_); refine bC (some 8) Try.func32 #[.int .i64 a0, .int .i64 (-2147483648), .int .i64 2147483648] ?_) | go_at_call 32); (with_reducible refine (fall_within.calls a0 (-2147483648) 2147483648 false _ A4.out).mono ?_); rintro e w' ⟨rfl, ⟨nd, rfl⟩⟩; (first | refine ⟨_, rfl, ?_⟩ | skip)))
 all_goals (go_ret; exact bD)
/-! ### wide_Of: function 68 -/
def wide_Of.f (a0 : Int) : Option (Int × Int) := some (a0 / 9223372036854775808, IntKind.u64.wrap (a0))
set_option maxHeartbeats 8000000 in
set_option maxRecDepth 100000 in
theorem wide_Of.calls (a0 : Int) (r1 : Int) (r2 : Int) (w : World) (h : wide_Of.f a0 = some (r1, r2)) :
  Calls Try.prog 68 #[.int .i64 a0] w fun e w' => e = .returned (.agg #[.int .i64 r1, .int .u64 r2]) ∧ Below w.heap.size w w' := by
 have hu62 := Try.underlying62
 have HB := bA (Below.refl w.heap.size w)
 have H : (some (a0 / 9223372036854775808, IntKind.u64.wrap (a0))) = some (r1, r2) := h
 clear h
 simp only [Option.some.injEq, Prod.mk.injEq] at H
 obtain ⟨rfl, rfl⟩ := H
 go_enter Try.func68, Try.ntmps68
 go_wp2_with (first | ((with_reducible refine gate_dst (N := 2) rfl ?_); refine bE (N := 2) (cs := #[.int .i64 0, .int .u64 0]) (t := 62) ?_; intro gb104 hg w2 hbox hb; have n0_ := bA (bS hb); have n1_ := bA (hbox); have n2_ := bA ((bZ hg : w.heap.size ≤ gb104)); have n3_ := bA ((bZ hg : w.heap.size ≤ gb104)); clear HB; have HB := n0_; have BK104 := n1_; have GW104 := n2_; have GE104 := n3_; clear n0_ n1_ n2_ n3_; clear hb hbox hg; have hcz3_0 : w2.cell? ⟨gb104, 0, none⟩ = some (.int .i64 0) := (blk_cell BK104.out 0).trans rfl; have hcz3_1 : w2.cell? ⟨gb104, 1, none⟩ = some (.int .u64 0) := (blk_cell BK104.out 1).trans rfl; have hfz3_0 := blk_frozen BK104.out 0; have hfz3_1 := blk_frozen BK104.out 1))
 refine bodyPost_ret (results_cell_row rfl _ _ gb104 62 #[.int .i64 (a0 / 9223372036854775808), .int .u64 (IntKind.u64.wrap (a0))] (0, 0) _ rfl (by (with_reducible repeat (first | refine blk_drewN ?_ _ | refine blk_drew ?_ | refine blk_alloc ?_ _)); refine blk_put (cs := #[.int .i64 (a0 / 9223372036854775808), .int .u64 0]) ?_ 1 _ rfl; (with_reducible repeat (first | refine blk_drewN ?_ _ | refine blk_drew ?_ | refine blk_alloc ?_ _)); refine blk_put (cs := #[.int .i64 0, .int .u64 0]) ?_ 0 _ rfl; (with_reducible repeat (first | refine blk_drewN ?_ _ | refine blk_drew ?_ | refine blk_alloc ?_ _)); exact BK104.out) Try.underlying62 rfl (by kernel_rfl)) rfl ?_
 exact bF
/-! ### bits_Mul64: function 58 -/
def bits_Mul64.f (a0 : Int) (a1 : Int) : Option (Int × Int) := some (IntKind.u64.wrap ((IntKind.u64.wrap ((IntKind.u64.wrap ((a0 / 4294967296) * (a1 / 4294967296))) + ((IntKind.u64.wrap ((IntKind.u64.wrap ((a0 / 4294967296) * (Go.bits .and .u64 a1 4294967295))) + ((IntKind.u64.wrap ((Go.bits .and .u64 a0 4294967295) * (Go.bits .and .u64 a1 4294967295))) / 4294967296))) / 4294967296))) + ((IntKind.u64.wrap ((Go.bits .and .u64 (IntKind.u64.wrap ((IntKind.u64.wrap ((a0 / 4294967296) * (Go.bits .and .u64 a1 4294967295))) + ((IntKind.u64.wrap ((Go.bits .and .u64 a0 4294967295) * (Go.bits .and .u64 a1 4294967295))) / 4294967296))) 4294967295) + (IntKind.u64.wrap ((Go.bits .and .u64 a0 4294967295) * (a1 / 4294967296))))) / 4294967296)), IntKind.u64.wrap (a0 * a1))
set_option maxHeartbeats 8000000 in
set_option maxRecDepth 100000 in
theorem bits_Mul64.calls (a0 : Int) (a1 : Int) (r1 : Int) (r2 : Int) (w : World) (h : bits_Mul64.f a0 a1 = some (r1, r2)) :
  Calls Try.prog 58 #[.int .u64 a0, .int .u64 a1] w fun e w' => e = .returned (.tuple #[.int .u64 r1, .int .u64 r2]) ∧ Drawn0 w w' := by
 have H : (some (IntKind.u64.wrap ((IntKind.u64.wrap ((IntKind.u64.wrap ((a0 / 4294967296) * (a1 / 4294967296))) + ((IntKind.u64.wrap ((IntKind.u64.wrap ((a0 / 4294967296) * (Go.bits .and .u64 a1 4294967295))) + ((IntKind.u64.wrap ((Go.bits .and .u64 a0 4294967295) * (Go.bits .and .u64 a1 4294967295))) / 4294967296))) / 4294967296))) + ((IntKind.u64.wrap ((Go.bits .and .u64 (IntKind.u64.wrap ((IntKind.u64.wrap ((a0 / 4294967296) * (Go.bits .and .u64 a1 4294967295))) + ((IntKind.u64.wrap ((Go.bits .and .u64 a0 4294967295) * (Go.bits .and .u64 a1 4294967295))) / 4294967296))) 4294967295) + (IntKind.u64.wrap ((Go.bits .and .u64 a0 4294967295) * (a1 / 4294967296))))) / 4294967296)), IntKind.u64.wrap (a0 * a1))) = some (r1, r2) := h
 clear h
 simp only [Option.some.injEq, Prod.mk.injEq] at H
 obtain ⟨rfl, rfl⟩ := H
 go_enter Try.func58, Try.ntmps58
 go_wp2
 go_ret2
 exact bD
/-! ### wide_above: function 79 -/
def wide_above.f (a0 : Int) (a1_0 : Int) (a1_1 : Int) : Option (Bool) := (bits_Mul64.f a0 a0).bind fun bt106 => (if bt106.1 > (IntKind.u64.wrap (a1_0)) then (some true) else (if bt106.1 = (IntKind.u64.wrap (a1_0)) then (some (decide (bt106.2 > a1_1))) else (some false)))
set_option maxHeartbeats 8000000 in
set_option maxRecDepth 100000 in
theorem wide_above.calls (a0 : Int) (a1_0 : Int) (a1_1 : Int) (r : Bool) (w : World) (h : wide_above.f a0 a1_0 a1_1 = some r) :
  Calls Try.prog 79 #[.int .u64 a0, .agg #[.int .i64 a1_0, .int .u64 a1_1]] w fun e w' => e = .returned (.bool r) ∧ Below w.heap.size w w' := by
 have hu62 := Try.underlying62
 have HB := bA (Below.refl w.heap.size w)
 have H : ((bits_Mul64.f a0 a0).bind fun bt106 => (if bt106.1 > (IntKind.u64.wrap (a1_0)) then (some true) else (if bt106.1 = (IntKind.u64.wrap (a1_0)) then (some (decide (bt106.2 > a1_1))) else (some false)))) = some r := h
 clear h
 replace H := Option.bind_eq_some_iff.mp H
 obtain ⟨⟨t106, t107⟩, A30, H⟩ := H
 replace H : (if t106 > (IntKind.u64.wrap (a1_0)) then (some true) else (if t106 = (IntKind.u64.wrap (a1_0)) then (some (decide (t107 > a1_1))) else (some false))) = some r := H
 have A3 := bA A30
 clear A30
 by_cases c4 : t106 > (IntKind.u64.wrap (a1_0))
 rw [if_pos c4] at H
 have c4b0 : decide ((IntKind.u64.wrap (a1_0)) < t106) = true := decide_eq_true c4
 clear c4
 obtain rfl := Option.some.inj H
 rotate_left
 rw [if_neg c4] at H
 have c4b0 : decide ((IntKind.u64.wrap (a1_0)) < t106) = false := decide_eq_false c4
 clear c4
 by_cases c7 : t106 = (IntKind.u64.wrap (a1_0))
 rw [if_pos c7] at H
 have c7b0 : (t106 == (IntKind.u64.wrap (a1_0))) = true := beq_iff_eq.mpr c7
 have c7b1 : (t106 != (IntKind.u64.wrap (a1_0))) = false := bne_eq_false_iff_eq.mpr c7
 clear c7
 obtain rfl := Option.some.inj H
 rotate_left
 rw [if_neg c7] at H
 have c7b0 : (t106 == (IntKind.u64.wrap (a1_0))) = false := beq_eq_false_iff_ne.mpr c7
 have c7b1 : (t106 != (IntKind.u64.wrap (a1_0))) = true := bne_iff_ne.mpr c7
 obtain rfl := Option.some.inj H
 rotate_left
 all_goals go_enter Try.func79, Try.ntmps79
 all_goals go_wp2_with (first | ((with_reducible refine gate_dst (N := 3) rfl ?_); refine bE (N := 3) (cs := #[.int .i64 a1_0, .int .u64 a1_1]) (t := 62) ?_; intro gb105 hg wz0 hbox hb; have n0_ := bA (bS hb); have n1_ := bA (hbox); have n2_ := bA ((bZ hg : w.heap.size ≤ gb105)); have n3_ := bA ((bZ hg : w.heap.size ≤ gb105)); clear HB; have HB := n0_; have BK105 := n1_; have GW105 := n2_; have GE105 := n3_; clear n0_ n1_ n2_ n3_; clear hb hbox hg) | ((first | ((with_reducible refine gate_callee (f := 58) rfl ?_); refine bC (some 10) Try.func58 #[.int .u64 a0, .int .u64 a0] ?_) | go_at_call 58); (with_reducible refine (bits_Mul64.calls a0 a0 t106 t107 _ A3.out).mono ?_); rintro e w' ⟨rfl, ⟨nd, rfl⟩⟩; (first | refine ⟨_, rfl, ?_⟩ | skip); have hz1 : wz0.cell? ⟨gb105, 0, none⟩ = some (.int .i64 a1_0) := (blk_cell BK105.out 0).trans rfl; have hz2 : wz0.cell? ⟨gb105, 1, none⟩ = some (.int .u64 a1_1) := (blk_cell BK105.out 1).trans rfl; have hz3 := blk_frozen BK105.out 0; have hz4 := blk_frozen BK105.out 1))
 all_goals (go_ret; exact bF)
/-! ### wide_Wide_Sqrt: function 76 -/
def wide_Wide_Sqrt.l0 : Nat → Int → Int → Int → Int → Option (Int × Bool)
 | 0, _, _, _, _ => none
 | k + 1, x4, x5, x109000, x109001 => if x5 > 0 then ((wide_above.f (Go.bits .or .u64 x4 x5) x109000 x109001).bind fun t109 => (if t109 = true then (wide_Wide_Sqrt.l0 k x4 (x5 / 2) x109000 x109001) else (wide_Wide_Sqrt.l0 k (Go.bits .or .u64 x4 x5) (x5 / 2) x109000 x109001))) else (some (x4, true))
def wide_Wide_Sqrt.f (k : Nat) (a0_0 : Int) (a0_1 : Int) : Option (Int × Bool) := if a0_0 < 0 then (some (0, false)) else (wide_Wide_Sqrt.l0 k 0 9223372036854775808 a0_0 a0_1)
theorem wide_Wide_Sqrt.mono_l : ∀ k, (∀ y0 y1 y2 y3, LeO (wide_Wide_Sqrt.l0 k y0 y1 y2 y3) (wide_Wide_Sqrt.l0 (k + 1) y0 y1 y2 y3))
 | 0 => fun _ _ _ _ r h => by simp [wide_Wide_Sqrt.l0] at h
 | k + 1 => by
  have ih0 := wide_Wide_Sqrt.mono_l k
  ·intro y0 y1 y2 y3
   unfold wide_Wide_Sqrt.l0
   repeat' first
   | (with_reducible exact ih0 _ _ _ _)
   | (with_reducible exact LeO.refl _)
   | (with_reducible exact LeO.none _)
   | (with_reducible refine LeO.ite ?_ ?_)
   | (with_reducible refine LeO.bind ?_ (fun _ => ?_))
   | exact ih0 _ _ _ _
   | exact LeO.none _
   | refine LeO.ite ?_ ?_
   | refine LeO.bind ?_ (fun _ => ?_)
theorem wide_Wide_Sqrt.mono : ∀ a0 a1 k, LeO (wide_Wide_Sqrt.f k a0 a1) (wide_Wide_Sqrt.f (k + 1) a0 a1) := by
 intro a0 a1 k
 have ih0 := wide_Wide_Sqrt.mono_l k
 unfold wide_Wide_Sqrt.f
 repeat' first
   | (with_reducible exact ih0 _ _ _ _)
   | (with_reducible exact LeO.refl _)
   | (with_reducible exact LeO.none _)
   | (with_reducible refine LeO.ite ?_ ?_)
   | (with_reducible refine LeO.bind ?_ (fun _ => ?_))
   | exact ih0 _ _ _ _
   | exact LeO.none _
   | refine LeO.ite ?_ ?_
   | refine LeO.bind ?_ (fun _ => ?_)
set_option maxHeartbeats 8000000 in
set_option maxRecDepth 100000 in
theorem wide_Wide_Sqrt.calls (k : Nat) (a0_0 : Int) (a0_1 : Int) (r1 : Int) (r2 : Bool) (w : World) (h : wide_Wide_Sqrt.f k a0_0 a0_1 = some (r1, r2)) :
  Calls Try.prog 76 #[.agg #[.int .i64 a0_0, .int .u64 a0_1]] w fun e w' => e = .returned (.tuple #[.int .u64 r1, .bool r2]) ∧ Below w.heap.size w w' := by
 have hu62 := Try.underlying62
 have HB := bA (Below.refl w.heap.size w)
 have H : (if a0_0 < 0 then (some (0, false)) else (wide_Wide_Sqrt.l0 k 0 9223372036854775808 a0_0 a0_1)) = some (r1, r2) := h
 clear h
 by_cases c2 : a0_0 < 0
 ·rw [if_pos c2] at H
  have c2b0 : decide (a0_0 < 0) = true := decide_eq_true c2
  clear c2
  simp only [Option.some.injEq, Prod.mk.injEq] at H
  obtain ⟨rfl, rfl⟩ := H
  go_enter Try.func76, Try.ntmps76
  go_wp2_with (first | ((with_reducible refine gate_dst (N := 1) rfl ?_); refine bE (N := 1) (cs := #[.int .i64 a0_0, .int .u64 a0_1]) (t := 62) ?_; intro gb108 hg w3 hbox hb; have n0_ := bA (bS hb); have n1_ := bA (hbox); have n2_ := bA ((bZ hg : w.heap.size ≤ gb108)); have n3_ := bA ((bZ hg : w.heap.size ≤ gb108)); clear HB; have HB := n0_; have BK108 := n1_; have GW108 := n2_; have GE108 := n3_; clear n0_ n1_ n2_ n3_; clear hb hbox hg; have hcz4_0 : w3.cell? ⟨gb108, 0, none⟩ = some (.int .i64 a0_0) := (blk_cell BK108.out 0).trans rfl; have hcz4_1 : w3.cell? ⟨gb108, 1, none⟩ = some (.int .u64 a0_1) := (blk_cell BK108.out 1).trans rfl; have hfz4_0 := blk_frozen BK108.out 0; have hfz4_1 := blk_frozen BK108.out 1))
  go_ret2
  exact bF
 ·rw [if_neg c2] at H
  have c2b0 : decide (a0_0 < 0) = false := decide_eq_false c2
  clear c2
  have H' := bA H
  clear H
  go_enter Try.func76, Try.ntmps76
  go_wp2_with (first | ((with_reducible refine gate_dst (N := 1) rfl ?_); refine bE (N := 1) (cs := #[.int .i64 a0_0, .int .u64 a0_1]) (t := 62) ?_; intro gb108 hg w5 hbox hb; have n0_ := bA (bS hb); have n1_ := bA (hbox); have n2_ := bA ((bZ hg : w.heap.size ≤ gb108)); have n3_ := bA ((bZ hg : w.heap.size ≤ gb108)); clear HB; have HB := n0_; have BK108 := n1_; have GW108 := n2_; have GE108 := n3_; clear n0_ n1_ n2_ n3_; clear hb hbox hg; have hcz6_0 : w5.cell? ⟨gb108, 0, none⟩ = some (.int .i64 a0_0) := (blk_cell BK108.out 0).trans rfl; have hcz6_1 : w5.cell? ⟨gb108, 1, none⟩ = some (.int .u64 a0_1) := (blk_cell BK108.out 1).trans rfl; have hfz6_0 := blk_frozen BK108.out 0; have hfz6_1 := blk_frozen BK108.out 1))
  go_loopg [4, 5] k (fun kq v4 v5 w' => ∃ (x4_1 : Int) (x5_1 : Int), v4 = .int .u64 x4_1 ∧ v5 = .int .u64 x5_1 ∧ Aside0 (wide_Wide_Sqrt.l0 kq x4_1 x5_1 a0_0 a0_1 = some (r1, r2)) ∧ Aside0 (kq ≤ k) ∧ Aside0 (w'.heap[gb108]? = some (.cells #[.int .i64 a0_0, .int .u64 a0_1] 62 (0, 0))) ∧ Aside0 (Below w.heap.size w w'))
  case atStart => exact ⟨(0), (9223372036854775808), (by first | rfl | (simp; done) | (simp [*]; done)), (by first | rfl | (simp; done) | (simp [*]; done)), H', ⟨Nat.le_refl _⟩, ⟨by (with_reducible repeat (first | refine blk_drewN ?_ _ | refine blk_drew ?_ | refine blk_alloc ?_ _)); exact BK108.out⟩, ⟨bX⟩⟩
  case round =>
   clear H'
   try clear c2
   try clear c2b0
   try clear p2
   try clear hcz4_0
   try clear hcz4_1
   try clear hcz6_0
   try clear hcz6_1
   try clear hfz4_0
   try clear hfz4_1
   try clear hfz6_0
   try clear hfz6_1
   obtain ⟨x4_1, x5_1, rfl, rfl, HA, HK1, BK108, HB⟩ := hrel
   cases gk with
   | zero => exact absurd HA.out (by simp [wide_Wide_Sqrt.l0])
   | succ k1 =>
    have H := HA.out
    clear HA
    simp only [wide_Wide_Sqrt.l0] at H
    by_cases c7 : x5_1 > 0
    rw [if_pos c7] at H
    have c7b0 : decide (0 < x5_1) = true := decide_eq_true c7
    clear c7
    replace H := Option.bind_eq_some_iff.mp H
    obtain ⟨t109, A80, H⟩ := H
    replace H : (if t109 = true then (wide_Wide_Sqrt.l0 k1 x4_1 (x5_1 / 2) a0_0 a0_1) else (wide_Wide_Sqrt.l0 k1 (Go.bits .or .u64 x4_1 x5_1) (x5_1 / 2) a0_0 a0_1)) = some (r1, r2) := H
    have A8 := bA A80
    clear A80
    by_cases c9 : t109 = true
    subst c9
    rw [if_pos rfl] at H
    have H' := bA H
    clear H
    have hcz10_0 : wr.cell? ⟨gb108, 0, none⟩ = some (.int .i64 a0_0) := (blk_cell BK108.out 0).trans rfl
    have hcz10_1 : wr.cell? ⟨gb108, 1, none⟩ = some (.int .u64 a0_1) := (blk_cell BK108.out 1).trans rfl
    have hfz10_0 := blk_frozen BK108.out 0
    have hfz10_1 := blk_frozen BK108.out 1
    rotate_left
    replace c9 := Bool.eq_false_iff.mpr c9
    subst c9
    rw [if_neg (show ¬ (false = true) by decide)] at H
    have H' := bA H
    clear H
    have hcz12_0 : wr.cell? ⟨gb108, 0, none⟩ = some (.int .i64 a0_0) := (blk_cell BK108.out 0).trans rfl
    have hcz12_1 : wr.cell? ⟨gb108, 1, none⟩ = some (.int .u64 a0_1) := (blk_cell BK108.out 1).trans rfl
    have hfz12_0 := blk_frozen BK108.out 0
    have hfz12_1 := blk_frozen BK108.out 1
    rotate_left
    rw [if_neg c7] at H
    have c7b0 : decide (0 < x5_1) = false := decide_eq_false c7
    clear c7
    simp only [Option.some.injEq, Prod.mk.injEq] at H
    obtain ⟨rfl, rfl⟩ := H
    rotate_left
    all_goals go_wp2_with (first | ((first | ((with_reducible refine gate_callee (f := 79) rfl ?_); refine bC (some 17) Try.func79 #[.int .u64 (Go.bits .or .u64 x4_1 x5_1), .agg #[.int .i64 a0_0, .int .u64 a0_1]] ?_) | go_at_call 79); (with_reducible refine (wide_above.calls (Go.bits .or .u64 x4_1 x5_1) a0_0 a0_1 true _ A8.out).mono ?_); rintro e wz0 ⟨rfl, hb⟩; (first | refine ⟨_, rfl, ?_⟩ | skip); have n0_ := bA (bB BK108 hb); have n1_ := bA (bS hb); clear BK108; clear HB; have BK108 := n0_; have HB := n1_; clear n0_ n1_; (try clear hb); (try clear hb2); (try clear hk); (try clear hi)) | ((first | ((with_reducible refine gate_callee (f := 79) rfl ?_); refine bC (some 17) Try.func79 #[.int .u64 (Go.bits .or .u64 x4_1 x5_1), .agg #[.int .i64 a0_0, .int .u64 a0_1]] ?_) | go_at_call 79); (with_reducible refine (wide_above.calls (Go.bits .or .u64 x4_1 x5_1) a0_0 a0_1 false _ A8.out).mono ?_); rintro e wz0 ⟨rfl, hb⟩; (first | refine ⟨_, rfl, ?_⟩ | skip); have n0_ := bA (bB BK108 hb); have n1_ := bA (bS hb); clear BK108; clear HB; have BK108 := n0_; have HB := n1_; clear n0_ n1_; (try clear hb); (try clear hb2); (try clear hk); (try clear hi)))
    ·go_roundg k1
     case measure => have := HK1.out; omega
     case rel => exact ⟨(x4_1), (x5_1 / 2), (by first | rfl | (simp; done) | (simp [*]; done)), (by first | rfl | (simp; done) | (simp [*]; done)), H', ⟨by have := HK1.out; omega⟩, ⟨by (with_reducible repeat (first | refine blk_drewN ?_ _ | refine blk_drew ?_ | refine blk_alloc ?_ _)); exact BK108.out⟩, ⟨bX⟩⟩
    ·go_roundg k1
     case measure => have := HK1.out; omega
     case rel => exact ⟨(Go.bits .or .u64 x4_1 x5_1), (x5_1 / 2), (by first | rfl | (simp; done) | (simp [*]; done)), (by first | rfl | (simp; done) | (simp [*]; done)), H', ⟨by have := HK1.out; omega⟩, ⟨by (with_reducible repeat (first | refine blk_drewN ?_ _ | refine blk_drew ?_ | refine blk_alloc ?_ _)); exact BK108.out⟩, ⟨bX⟩⟩
    ·go_ret2
     exact bF
/-! ### fix_root: function 67 -/
def fix_root.f (k : Nat) (a0_0 : Int) (a0_1 : Int) (a1 : Bool) : Option (Int × Bool) := if a1 = true then ((wide_Wide_Sqrt.f k a0_0 a0_1).bind fun bt111 => (if bt111.2 = true then (if bt111.1 > 9223372036854775807 then (some (0, false)) else (some (wrap64 (bt111.1), true))) else (some (0, false)))) else (some (0, false))
theorem fix_root.mono : ∀ a0 a1 a2 k, LeO (fix_root.f k a0 a1 a2) (fix_root.f (k + 1) a0 a1 a2) := by
 intro a0 a1 a2 k
 unfold fix_root.f
 repeat' first
   | (with_reducible exact wide_Wide_Sqrt.mono _ _ _)
   | (with_reducible exact LeO.refl _)
   | (with_reducible exact LeO.none _)
   | (with_reducible refine LeO.ite ?_ ?_)
   | (with_reducible refine LeO.bind ?_ (fun _ => ?_))
   | exact wide_Wide_Sqrt.mono _ _ _
   | exact LeO.none _
   | refine LeO.ite ?_ ?_
   | refine LeO.bind ?_ (fun _ => ?_)
set_option maxHeartbeats 8000000 in
set_option maxRecDepth 100000 in
theorem fix_root.calls (k : Nat) (a0_0 : Int) (a0_1 : Int) (a1 : Bool) (r1 : Int) (r2 : Bool) (w : World) (h : fix_root.f k a0_0 a0_1 a1 = some (r1, r2)) :
  Calls Try.prog 67 #[.agg #[.int .i64 a0_0, .int .u64 a0_1], .bool a1] w fun e w' => e = .returned (.tuple #[.int .i64 r1, .bool r2]) ∧ Below w.heap.size w w' := by
 have hu62 := Try.underlying62
 have HB := bA (Below.refl w.heap.size w)
 have H : (if a1 = true then ((wide_Wide_Sqrt.f k a0_0 a0_1).bind fun bt111 => (if bt111.2 = true then (if bt111.1 > 9223372036854775807 then (some (0, false)) else (some (wrap64 (bt111.1), true))) else (some (0, false)))) else (some (0, false))) = some (r1, r2) := h
 clear h
 by_cases c3 : a1 = true
 subst c3
 rw [if_pos rfl] at H
 replace H := Option.bind_eq_some_iff.mp H
 obtain ⟨⟨t111, t112⟩, A40, H⟩ := H
 replace H : (if t112 = true then (if t111 > 9223372036854775807 then (some (0, false)) else (some (wrap64 (t111), true))) else (some (0, false))) = some (r1, r2) := H
 have A4 := bA A40
 clear A40
 by_cases c5 : t112 = true
 subst c5
 rw [if_pos rfl] at H
 by_cases c6 : t111 > 9223372036854775807
 rw [if_pos c6] at H
 have c6b0 : decide (9223372036854775807 < t111) = true := decide_eq_true c6
 clear c6
 simp only [Option.some.injEq, Prod.mk.injEq] at H
 obtain ⟨rfl, rfl⟩ := H
 rotate_left
 rw [if_neg c6] at H
 have c6b0 : decide (9223372036854775807 < t111) = false := decide_eq_false c6
 clear c6
 simp only [Option.some.injEq, Prod.mk.injEq] at H
 obtain ⟨rfl, rfl⟩ := H
 rotate_left
 replace c5 := Bool.eq_false_iff.mpr c5
 subst c5
 rw [if_neg (show ¬ (false = true) by decide)] at H
 simp only [Option.some.injEq, Prod.mk.injEq] at H
 obtain ⟨rfl, rfl⟩ := H
 rotate_left
 replace c3 := Bool.eq_false_iff.mpr c3
 subst c3
 rw [if_neg (show ¬ (false = true) by decide)] at H
 simp only [Option.some.injEq, Prod.mk.injEq] at H
 obtain ⟨rfl, rfl⟩ := H
 rotate_left
 all_goals go_enter Try.func67, Try.ntmps67
 all_goals go_wp2_with (first | ((with_reducible refine gate_dst (N := 2) rfl ?_); refine bE (N := 2) (cs := #[.int .i64 a0_0, .int .u64 a0_1]) (t := 62) ?_; intro gb110 hg wz0 hbox hb; have n0_ := bA (bS hb); have n1_ := bA (hbox); have n2_ := bA ((bZ hg : w.heap.size ≤ gb110)); have n3_ := bA ((bZ hg : w.heap.size ≤ gb110)); clear HB; have HB := n0_; have BK110 := n1_; have GW110 := n2_; have GE110 := n3_; clear n0_ n1_ n2_ n3_; clear hb hbox hg; have hz1 : wz0.cell? ⟨gb110, 0, none⟩ = some (.int .i64 a0_0) := (blk_cell BK110.out 0).trans rfl; have hz2 : wz0.cell? ⟨gb110, 1, none⟩ = some (.int .u64 a0_1) := (blk_cell BK110.out 1).trans rfl; have hz3 := blk_frozen BK110.out 0; have hz4 := blk_frozen BK110.out 1) | ((first | ((with_reducible refine gate_callee (f := 76) rfl ?_); refine bC (some 11) Try.func76 #[.agg #[.int .i64 a0_0, .int .u64 a0_1]] ?_) | go_at_call 76); (with_reducible refine (wide_Wide_Sqrt.calls k a0_0 a0_1 t111 true _ A4.out).mono ?_); rintro e wz1 ⟨rfl, hb⟩; (first | refine ⟨_, rfl, ?_⟩ | skip); have n0_ := bA (bB BK110 hb); have n1_ := bA (bS hb); clear BK110; clear HB; have BK110 := n0_; have HB := n1_; clear n0_ n1_; (try clear hb); (try clear hb2); (try clear hk); (try clear hi)) | ((first | ((with_reducible refine gate_callee (f := 76) rfl ?_); refine bC (some 11) Try.func76 #[.agg #[.int .i64 a0_0, .int .u64 a0_1]] ?_) | go_at_call 76); (with_reducible refine (wide_Wide_Sqrt.calls k a0_0 a0_1 t111 false _ A4.out).mono ?_); rintro e wz1 ⟨rfl, hb⟩; (first | refine ⟨_, rfl, ?_⟩ | skip); have n0_ := bA (bB BK110 hb); have n1_ := bA (bS hb); clear BK110; clear HB; have BK110 := n0_; have HB := n1_; clear n0_ n1_; (try clear hb); (try clear hb2); (try clear hk); (try clear hi)))
 all_goals (go_ret2; exact bF)
/-! ### fix_Sqrt: function 53 -/
def fix_Sqrt.f (k : Nat) (a0 : Int) : Option (Int × Bool) := (wide_Of.f a0).bind fun bt113 => ((fix_root.f k bt113.1 bt113.2 true).bind fun bt115 => (some (bt115.1, bt115.2)))
theorem fix_Sqrt.mono : ∀ a0 k, LeO (fix_Sqrt.f k a0) (fix_Sqrt.f (k + 1) a0) := by
 intro a0 k
 unfold fix_Sqrt.f
 repeat' first
   | (with_reducible exact fix_root.mono _ _ _ _)
   | (with_reducible exact LeO.refl _)
   | (with_reducible exact LeO.none _)
   | (with_reducible refine LeO.ite ?_ ?_)
   | (with_reducible refine LeO.bind ?_ (fun _ => ?_))
   | exact fix_root.mono _ _ _ _
   | exact LeO.none _
   | refine LeO.ite ?_ ?_
   | refine LeO.bind ?_ (fun _ => ?_)
set_option maxHeartbeats 8000000 in
set_option maxRecDepth 100000 in
theorem fix_Sqrt.calls (k : Nat) (a0 : Int) (r1 : Int) (r2 : Bool) (w : World) (h : fix_Sqrt.f k a0 = some (r1, r2)) :
  Calls Try.prog 53 #[.int .i64 a0] w fun e w' => e = .returned (.tuple #[.int .i64 r1, .bool r2]) ∧ Below w.heap.size w w' := by
 have HB := bA (Below.refl w.heap.size w)
 have H : ((wide_Of.f a0).bind fun bt113 => ((fix_root.f k bt113.1 bt113.2 true).bind fun bt115 => (some (bt115.1, bt115.2)))) = some (r1, r2) := h
 clear h
 replace H := Option.bind_eq_some_iff.mp H
 obtain ⟨⟨t113, t114⟩, A20, H⟩ := H
 replace H : ((fix_root.f k t113 t114 true).bind fun bt115 => (some (bt115.1, bt115.2))) = some (r1, r2) := H
 have A2 := bA A20
 clear A20
 replace H := Option.bind_eq_some_iff.mp H
 obtain ⟨⟨t115, t116⟩, A30, H⟩ := H
 replace H : (some (t115, t116)) = some (r1, r2) := H
 have A3 := bA A30
 clear A30
 simp only [Option.some.injEq, Prod.mk.injEq] at H
 obtain ⟨rfl, rfl⟩ := H
 go_enter Try.func53, Try.ntmps53
 go_wp2_with (first | ((first | ((with_reducible refine gate_callee (f := 68) rfl ?_); refine bC (some 5) Try.func68 #[.int .i64 a0] ?_) | go_at_call 68); (with_reducible refine (wide_Of.calls a0 t113 t114 _ A2.out).mono ?_); rintro e w4 ⟨rfl, hb⟩; (first | refine ⟨_, rfl, ?_⟩ | skip); have n0_ := bA (bS hb); clear HB; have HB := n0_; clear n0_; (try clear hb); (try clear hb2); (try clear hk); (try clear hi)) | ((first | ((with_reducible refine gate_callee (f := 67) rfl ?_); refine bC (some 6) Try.func67 #[.agg #[.int .i64 t113, .int .u64 t114], .bool true] ?_) | go_at_call 67); (with_reducible refine (fix_root.calls k t113 t114 true t115 t116 _ A3.out).mono ?_); rintro e w5 ⟨rfl, hb⟩; (first | refine ⟨_, rfl, ?_⟩ | skip); have n0_ := bA (bS hb); clear HB; have HB := n0_; clear n0_; (try clear hb); (try clear hb2); (try clear hk); (try clear hi)))
 go_ret2
 exact bF
/-! ### fall_fallen: function 31 -/
def fall_fallen.f (k : Nat) (a0 : Int) (a1 : Int) (a2 : Int) : Option (Int × Bool) := if a0 < 0 then (some (0, true)) else ((fix_Sqrt.f k (wrap64 ((wrap64 (a1 * a1)) + (wrap64 ((wrap64 (2 * a2)) * a0))))).bind fun bt117 => (if a2 = 0 then (none) else (some (wrap64 (Int.tdiv (wrap64 (a1 + bt117.1)) a2), bt117.2))))
theorem fall_fallen.mono : ∀ a0 a1 a2 k, LeO (fall_fallen.f k a0 a1 a2) (fall_fallen.f (k + 1) a0 a1 a2) := by
 intro a0 a1 a2 k
 unfold fall_fallen.f
 repeat' first
   | (with_reducible exact fix_Sqrt.mono _ _)
   | (with_reducible exact LeO.refl _)
   | (with_reducible exact LeO.none _)
   | (with_reducible refine LeO.ite ?_ ?_)
   | (with_reducible refine LeO.bind ?_ (fun _ => ?_))
   | exact fix_Sqrt.mono _ _
   | exact LeO.none _
   | refine LeO.ite ?_ ?_
   | refine LeO.bind ?_ (fun _ => ?_)
set_option maxHeartbeats 8000000 in
set_option maxRecDepth 100000 in
theorem fall_fallen.calls (k : Nat) (a0 : Int) (a1 : Int) (a2 : Int) (r1 : Int) (r2 : Bool) (w : World) (h : fall_fallen.f k a0 a1 a2 = some (r1, r2)) :
  Calls Try.prog 31 #[.int .i64 a0, .int .i64 a1, .int .i64 a2] w fun e w' => e = .returned (.tuple #[.int .i64 r1, .bool r2]) ∧ Below w.heap.size w w' := by
 have HB := bA (Below.refl w.heap.size w)
 have H : (if a0 < 0 then (some (0, true)) else ((fix_Sqrt.f k (wrap64 ((wrap64 (a1 * a1)) + (wrap64 ((wrap64 (2 * a2)) * a0))))).bind fun bt117 => (if a2 = 0 then (none) else (some (wrap64 (Int.tdiv (wrap64 (a1 + bt117.1)) a2), bt117.2))))) = some (r1, r2) := h
 clear h
 by_cases c4 : a0 < 0
 rw [if_pos c4] at H
 have c4b0 : decide (a0 < 0) = true := decide_eq_true c4
 clear c4
 simp only [Option.some.injEq, Prod.mk.injEq] at H
 obtain ⟨rfl, rfl⟩ := H
 rotate_left
 rw [if_neg c4] at H
 have c4b0 : decide (a0 < 0) = false := decide_eq_false c4
 clear c4
 replace H := Option.bind_eq_some_iff.mp H
 obtain ⟨⟨t117, t118⟩, A50, H⟩ := H
 replace H : (if a2 = 0 then (none) else (some (wrap64 (Int.tdiv (wrap64 (a1 + t117)) a2), t118))) = some (r1, r2) := H
 have A5 := bA A50
 clear A50
 by_cases c6 : a2 = 0
 rw [if_pos c6] at H
 exact absurd H (by simp)
 rw [if_neg c6] at H
 have c6b0 : (a2 == 0) = false := beq_eq_false_iff_ne.mpr c6
 have c6b1 : (a2 != 0) = true := bne_iff_ne.mpr c6
 simp only [Option.some.injEq, Prod.mk.injEq] at H
 obtain ⟨rfl, rfl⟩ := H
 rotate_left
 all_goals go_enter Try.func31, Try.ntmps31
 all_goals go_wp2_with (first | ((first | ((with_reducible refine gate_callee (f := 53) rfl ?_); refine bC (some 21) Try.func53 #[.int .i64 (wrap64 ((wrap64 (a1 * a1)) + (wrap64 ((wrap64 (2 * a2)) * a0))))] ?_) | go_at_call 53); (with_reducible refine (fix_Sqrt.calls k (wrap64 ((wrap64 (a1 * a1)) + (wrap64 ((wrap64 (2 * a2)) * a0)))) t117 t118 _ A5.out).mono ?_); rintro e wz0 ⟨rfl, hb⟩; (first | refine ⟨_, rfl, ?_⟩ | skip); have n0_ := bA (bS hb); clear HB; have HB := n0_; clear n0_; (try clear hb); (try clear hb2); (try clear hk); (try clear hi)))
 all_goals (go_ret2; exact bF)
/-! ### fall_Time: function 7 -/
def fall_Time.f (k : Nat) (a0 : Int) (a1 : Int) (a2 : Int) : Option (Int × Bool) := (fall_may.f a0 a1 a2).bind fun t119 => (if t119 = true then ((fall_fallen.f k a0 a1 a2).bind fun bt120 => (some (bt120.1, bt120.2))) else (some (0, false)))
theorem fall_Time.mono : ∀ a0 a1 a2 k, LeO (fall_Time.f k a0 a1 a2) (fall_Time.f (k + 1) a0 a1 a2) := by
 intro a0 a1 a2 k
 unfold fall_Time.f
 repeat' first
   | (with_reducible exact fall_fallen.mono _ _ _ _)
   | (with_reducible exact LeO.refl _)
   | (with_reducible exact LeO.none _)
   | (with_reducible refine LeO.ite ?_ ?_)
   | (with_reducible refine LeO.bind ?_ (fun _ => ?_))
   | exact fall_fallen.mono _ _ _ _
   | exact LeO.none _
   | refine LeO.ite ?_ ?_
   | refine LeO.bind ?_ (fun _ => ?_)
set_option maxHeartbeats 8000000 in
set_option maxRecDepth 100000 in
theorem fall_Time.calls (k : Nat) (a0 : Int) (a1 : Int) (a2 : Int) (r1 : Int) (r2 : Bool) (w : World) (h : fall_Time.f k a0 a1 a2 = some (r1, r2)) :
  Calls Try.prog 7 #[.int .i64 a0, .int .i64 a1, .int .i64 a2] w fun e w' => e = .returned (.tuple #[.int .i64 r1, .bool r2]) ∧ Below w.heap.size w w' := by
 have HB := bA (Below.refl w.heap.size w)
 have H : ((fall_may.f a0 a1 a2).bind fun t119 => (if t119 = true then ((fall_fallen.f k a0 a1 a2).bind fun bt120 => (some (bt120.1, bt120.2))) else (some (0, false)))) = some (r1, r2) := h
 clear h
 replace H := Option.bind_eq_some_iff.mp H
 obtain ⟨t119, A40, H⟩ := H
 replace H : (if t119 = true then ((fall_fallen.f k a0 a1 a2).bind fun bt120 => (some (bt120.1, bt120.2))) else (some (0, false))) = some (r1, r2) := H
 have A4 := bA A40
 clear A40
 by_cases c5 : t119 = true
 subst c5
 rw [if_pos rfl] at H
 replace H := Option.bind_eq_some_iff.mp H
 obtain ⟨⟨t120, t121⟩, A60, H⟩ := H
 replace H : (some (t120, t121)) = some (r1, r2) := H
 have A6 := bA A60
 clear A60
 simp only [Option.some.injEq, Prod.mk.injEq] at H
 obtain ⟨rfl, rfl⟩ := H
 rotate_left
 replace c5 := Bool.eq_false_iff.mpr c5
 subst c5
 rw [if_neg (show ¬ (false = true) by decide)] at H
 simp only [Option.some.injEq, Prod.mk.injEq] at H
 obtain ⟨rfl, rfl⟩ := H
 rotate_left
 all_goals go_enter Try.func7, Try.ntmps7
 all_goals go_wp2_with (first | ((first | ((with_reducible refine gate_callee (f := 30) rfl ?_); refine bC (some 11) Try.func30 #[.int .i64 a0, .int .i64 a1, .int .i64 a2] ?_) | go_at_call 30); (with_reducible refine (fall_may.calls a0 a1 a2 true _ A4.out).mono ?_); rintro e w' ⟨rfl, ⟨nd, rfl⟩⟩; (first | refine ⟨_, rfl, ?_⟩ | skip)) | ((first | ((with_reducible refine gate_callee (f := 31) rfl ?_); refine bC (some 16) Try.func31 #[.int .i64 a0, .int .i64 a1, .int .i64 a2] ?_) | go_at_call 31); (with_reducible refine (fall_fallen.calls k a0 a1 a2 t120 t121 _ A6.out).mono ?_); rintro e wz0 ⟨rfl, hb⟩; (first | refine ⟨_, rfl, ?_⟩ | skip); have n0_ := bA (bS hb); clear HB; have HB := n0_; clear n0_; (try clear hb); (try clear hb2); (try clear hk); (try clear hi)) | ((first | ((with_reducible refine gate_callee (f := 30) rfl ?_); refine bC (some 11) Try.func30 #[.int .i64 a0, .int .i64 a1, .int .i64 a2] ?_) | go_at_call 30); (with_reducible refine (fall_may.calls a0 a1 a2 false _ A4.out).mono ?_); rintro e w' ⟨rfl, ⟨nd, rfl⟩⟩; (first | refine ⟨_, rfl, ?_⟩ | skip)))
 all_goals (go_ret2; exact bF)
/-! ### wide_Wide_Add: function 70 -/
def wide_Wide_Add.f (a0_0 : Int) (a0_1 : Int) (a1_0 : Int) (a1_1 : Int) : Option (Int × Int × Bool) := if (add64c a0_1 a1_1 0) ≤ 1 then (if (Go.bits .and .i64 (Go.bits .xor .i64 a0_0 (wrap64 (add64s (IntKind.u64.wrap (a0_0)) (IntKind.u64.wrap (a1_0)) (add64c a0_1 a1_1 0)))) (Go.bits .xor .i64 a1_0 (wrap64 (add64s (IntKind.u64.wrap (a0_0)) (IntKind.u64.wrap (a1_0)) (add64c a0_1 a1_1 0))))) < 0 then (some (0, 0, false)) else (some (wrap64 (add64s (IntKind.u64.wrap (a0_0)) (IntKind.u64.wrap (a1_0)) (add64c a0_1 a1_1 0)), add64s a0_1 a1_1 0, true))) else (none)
set_option maxHeartbeats 8000000 in
set_option maxRecDepth 100000 in
theorem wide_Wide_Add.calls (a0_0 : Int) (a0_1 : Int) (a1_0 : Int) (a1_1 : Int) (r1 : Int) (r2 : Int) (r3 : Bool) (w : World) (h : wide_Wide_Add.f a0_0 a0_1 a1_0 a1_1 = some (r1, r2, r3)) :
  Calls Try.prog 70 #[.agg #[.int .i64 a0_0, .int .u64 a0_1], .agg #[.int .i64 a1_0, .int .u64 a1_1]] w fun e w' => e = .returned (.tuple #[.agg #[.int .i64 r1, .int .u64 r2], .bool r3]) ∧ Below w.heap.size w w' := by
 have hu62 := Try.underlying62
 have HB := bA (Below.refl w.heap.size w)
 have H : (if (add64c a0_1 a1_1 0) ≤ 1 then (if (Go.bits .and .i64 (Go.bits .xor .i64 a0_0 (wrap64 (add64s (IntKind.u64.wrap (a0_0)) (IntKind.u64.wrap (a1_0)) (add64c a0_1 a1_1 0)))) (Go.bits .xor .i64 a1_0 (wrap64 (add64s (IntKind.u64.wrap (a0_0)) (IntKind.u64.wrap (a1_0)) (add64c a0_1 a1_1 0))))) < 0 then (some (0, 0, false)) else (some (wrap64 (add64s (IntKind.u64.wrap (a0_0)) (IntKind.u64.wrap (a1_0)) (add64c a0_1 a1_1 0)), add64s a0_1 a1_1 0, true))) else (none)) = some (r1, r2, r3) := h
 clear h
 by_cases c3 : (add64c a0_1 a1_1 0) ≤ 1
 rw [if_pos c3] at H
 have c3b0 : decide ((add64c a0_1 a1_1 0) ≤ 1) = true := decide_eq_true c3
 clear c3
 by_cases c4 : (Go.bits .and .i64 (Go.bits .xor .i64 a0_0 (wrap64 (add64s (IntKind.u64.wrap (a0_0)) (IntKind.u64.wrap (a1_0)) (add64c a0_1 a1_1 0)))) (Go.bits .xor .i64 a1_0 (wrap64 (add64s (IntKind.u64.wrap (a0_0)) (IntKind.u64.wrap (a1_0)) (add64c a0_1 a1_1 0))))) < 0
 rw [if_pos c4] at H
 have c4b0 : decide ((Go.bits .and .i64 (Go.bits .xor .i64 a0_0 (wrap64 (add64s (IntKind.u64.wrap (a0_0)) (IntKind.u64.wrap (a1_0)) (add64c a0_1 a1_1 0)))) (Go.bits .xor .i64 a1_0 (wrap64 (add64s (IntKind.u64.wrap (a0_0)) (IntKind.u64.wrap (a1_0)) (add64c a0_1 a1_1 0))))) < 0) = true := decide_eq_true c4
 clear c4
 simp only [Option.some.injEq, Prod.mk.injEq] at H
 obtain ⟨rfl, rfl, rfl⟩ := H
 rotate_left
 rw [if_neg c4] at H
 have c4b0 : decide ((Go.bits .and .i64 (Go.bits .xor .i64 a0_0 (wrap64 (add64s (IntKind.u64.wrap (a0_0)) (IntKind.u64.wrap (a1_0)) (add64c a0_1 a1_1 0)))) (Go.bits .xor .i64 a1_0 (wrap64 (add64s (IntKind.u64.wrap (a0_0)) (IntKind.u64.wrap (a1_0)) (add64c a0_1 a1_1 0))))) < 0) = false := decide_eq_false c4
 clear c4
 simp only [Option.some.injEq, Prod.mk.injEq] at H
 obtain ⟨rfl, rfl, rfl⟩ := H
 rotate_left
 rw [if_neg c3] at H
 exact absurd H (by simp)
 all_goals go_enter Try.func70, Try.ntmps70
 all_goals go_wp2_with (first | ((with_reducible refine gate_dst (N := 2) rfl ?_); refine bE (N := 2) (cs := #[.int .i64 a0_0, .int .u64 a0_1]) (t := 62) ?_; intro gb122 hg wz0 hbox hb; have n0_ := bA (bS hb); have n1_ := bA (hbox); have n2_ := bA ((bZ hg : w.heap.size ≤ gb122)); have n3_ := bA ((bZ hg : w.heap.size ≤ gb122)); clear HB; have HB := n0_; have BK122 := n1_; have GW122 := n2_; have GE122 := n3_; clear n0_ n1_ n2_ n3_; clear hb hbox hg) | ((with_reducible refine gate_dst (N := 3) rfl ?_); refine bE (N := 3) (cs := #[.int .i64 a1_0, .int .u64 a1_1]) (t := 62) ?_; intro gb123 hg wz1 hbox hb; have n0_ := bA (bB BK122 hb); have n1_ := bA (bS hb); have n2_ := bA (hbox); have n3_ := bA ((bZ hg : w.heap.size ≤ gb123)); have n4_ := bA ((bZ hg : w.heap.size ≤ gb123)); have n5_ := bA ((bL BK122 hg : gb122 ≠ gb123)); have n6_ := bA ((bG BK122 hg : gb123 ≠ gb122)); clear BK122; clear HB; have BK122 := n0_; have HB := n1_; have BK123 := n2_; have GW123 := n3_; have GE123 := n4_; have NB122_123 := n5_; have NB123_122 := n6_; clear n0_ n1_ n2_ n3_ n4_ n5_ n6_; clear hb hbox hg) | ((with_reducible refine gate_dst (N := 4) rfl ?_); refine bE (N := 4) (cs := #[.int .i64 0, .int .u64 0]) (t := 62) ?_; intro gb124 hg wz2 hbox hb; have n0_ := bA (bB BK122 hb); have n1_ := bA (bB BK123 hb); have n2_ := bA (bS hb); have n3_ := bA (hbox); have n4_ := bA ((bZ hg : w.heap.size ≤ gb124)); have n5_ := bA ((bZ hg : w.heap.size ≤ gb124)); have n6_ := bA ((bL BK122 hg : gb122 ≠ gb124)); have n7_ := bA ((bG BK122 hg : gb124 ≠ gb122)); have n8_ := bA ((bL BK123 hg : gb123 ≠ gb124)); have n9_ := bA ((bG BK123 hg : gb124 ≠ gb123)); clear BK122; clear BK123; clear HB; have BK122 := n0_; have BK123 := n1_; have HB := n2_; have BK124 := n3_; have GW124 := n4_; have GE124 := n5_; have NB122_124 := n6_; have NB124_122 := n7_; have NB123_124 := n8_; have NB124_123 := n9_; clear n0_ n1_ n2_ n3_ n4_ n5_ n6_ n7_ n8_ n9_; clear hb hbox hg; have hz1 := NB122_123.out; have hz2 := NB123_122.out; have hz3 := NB122_124.out; have hz4 := NB124_122.out; have hz5 : wz2.cell? ⟨gb122, 0, none⟩ = some (.int .i64 a0_0) := (blk_cell BK122.out 0).trans rfl; have hz6 : wz2.cell? ⟨gb122, 1, none⟩ = some (.int .u64 a0_1) := (blk_cell BK122.out 1).trans rfl; have hz7 := blk_frozen BK122.out 0; have hz8 := blk_frozen BK122.out 1; have hz9 := NB123_124.out; have hz10 := NB124_123.out; have hz11 : wz2.cell? ⟨gb123, 0, none⟩ = some (.int .i64 a1_0) := (blk_cell BK123.out 0).trans rfl; have hz12 : wz2.cell? ⟨gb123, 1, none⟩ = some (.int .u64 a1_1) := (blk_cell BK123.out 1).trans rfl; have hz13 := blk_frozen BK123.out 0; have hz14 := blk_frozen BK123.out 1) | ((with_reducible refine gate_dst (N := 10) rfl ?_); refine bE (N := 10) (cs := #[.int .i64 0, .int .u64 0]) (t := 62) ?_; intro gb125 hg wz3 hbox hb; have n0_ := bA (bB BK122 hb); have n1_ := bA (bB BK123 hb); have n2_ := bA (bB BK124 hb); have n3_ := bA (bS hb); have n4_ := bA (hbox); have n5_ := bA ((bZ hg : w.heap.size ≤ gb125)); have n6_ := bA ((bZ hg : w.heap.size ≤ gb125)); have n7_ := bA ((bL BK122 hg : gb122 ≠ gb125)); have n8_ := bA ((bG BK122 hg : gb125 ≠ gb122)); have n9_ := bA ((bL BK123 hg : gb123 ≠ gb125)); have n10_ := bA ((bG BK123 hg : gb125 ≠ gb123)); have n11_ := bA ((bL BK124 hg : gb124 ≠ gb125)); have n12_ := bA ((bG BK124 hg : gb125 ≠ gb124)); clear BK122; clear BK123; clear BK124; clear HB; have BK122 := n0_; have BK123 := n1_; have BK124 := n2_; have HB := n3_; have BK125 := n4_; have GW125 := n5_; have GE125 := n6_; have NB122_125 := n7_; have NB125_122 := n8_; have NB123_125 := n9_; have NB125_123 := n10_; have NB124_125 := n11_; have NB125_124 := n12_; clear n0_ n1_ n2_ n3_ n4_ n5_ n6_ n7_ n8_ n9_ n10_ n11_ n12_; clear hb hbox hg; have hz15 := NB125_122.out; have hz16 := NB122_125.out; have hz17 := NB125_123.out; have hz18 := NB123_125.out; have hz19 := NB125_124.out; have hz20 := NB124_125.out; have hz21 : wz3.cell? ⟨gb125, 0, none⟩ = some (.int .i64 0) := (blk_cell BK125.out 0).trans rfl; have hz22 : wz3.cell? ⟨gb125, 1, none⟩ = some (.int .u64 0) := (blk_cell BK125.out 1).trans rfl; have hz23 := blk_frozen BK125.out 0; have hz24 := blk_frozen BK125.out 1; have hz25 : wz3.cell? ⟨gb122, 0, none⟩ = some (.int .i64 a0_0) := (blk_cell BK122.out 0).trans rfl; have hz26 : wz3.cell? ⟨gb122, 1, none⟩ = some (.int .u64 a0_1) := (blk_cell BK122.out 1).trans rfl; have hz7 := blk_frozen BK122.out 0; have hz8 := blk_frozen BK122.out 1; have hz27 : wz3.cell? ⟨gb123, 0, none⟩ = some (.int .i64 a1_0) := (blk_cell BK123.out 0).trans rfl; have hz28 : wz3.cell? ⟨gb123, 1, none⟩ = some (.int .u64 a1_1) := (blk_cell BK123.out 1).trans rfl; have hz13 := blk_frozen BK123.out 0; have hz14 := blk_frozen BK123.out 1; have hz29 : wz3.cell? ⟨gb124, 0, none⟩ = some (.int .i64 0) := (blk_cell BK124.out 0).trans rfl; have hz30 : wz3.cell? ⟨gb124, 1, none⟩ = some (.int .u64 0) := (blk_cell BK124.out 1).trans rfl; have hz31 := blk_frozen BK124.out 0; have hz32 := blk_frozen BK124.out 1))
 ·refine bodyPost_ret (results_ct rfl _ _ gb124 62 #[.int .i64 0, .int .u64 0] (0, 0) _ rfl (by (with_reducible repeat (first | refine blk_drewN ?_ _ | refine blk_drew ?_ | refine blk_alloc ?_ _)); refine blk_put (cs := #[.int .i64 0, .int .u64 0]) ?_ 1 _ rfl; (with_reducible repeat (first | refine blk_drewN ?_ _ | refine blk_drew ?_ | refine blk_alloc ?_ _)); refine blk_put (cs := #[.int .i64 0, .int .u64 0]) ?_ 0 _ rfl; (with_reducible repeat (first | refine blk_drewN ?_ _ | refine blk_drew ?_ | refine blk_alloc ?_ _)); refine blk_far ?_ NB124_125.out _; (with_reducible repeat (first | refine blk_drewN ?_ _ | refine blk_drew ?_ | refine blk_alloc ?_ _)); refine blk_far ?_ NB124_125.out _; (with_reducible repeat (first | refine blk_drewN ?_ _ | refine blk_drew ?_ | refine blk_alloc ?_ _)); exact BK124.out) Try.underlying62 rfl (by kernel_rfl)) rfl ?_
  exact bF
 ·refine bodyPost_ret (results_ct rfl _ _ gb124 62 #[.int .i64 (wrap64 (add64s (IntKind.u64.wrap (a0_0)) (IntKind.u64.wrap (a1_0)) (add64c a0_1 a1_1 0))), .int .u64 (add64s a0_1 a1_1 0)] (0, 0) _ rfl (by (with_reducible repeat (first | refine blk_drewN ?_ _ | refine blk_drew ?_ | refine blk_alloc ?_ _)); refine blk_put (cs := #[.int .i64 (wrap64 (add64s (IntKind.u64.wrap (a0_0)) (IntKind.u64.wrap (a1_0)) (add64c a0_1 a1_1 0))), .int .u64 0]) ?_ 1 _ rfl; (with_reducible repeat (first | refine blk_drewN ?_ _ | refine blk_drew ?_ | refine blk_alloc ?_ _)); refine blk_put (cs := #[.int .i64 0, .int .u64 0]) ?_ 0 _ rfl; (with_reducible repeat (first | refine blk_drewN ?_ _ | refine blk_drew ?_ | refine blk_alloc ?_ _)); refine blk_far ?_ NB124_125.out _; (with_reducible repeat (first | refine blk_drewN ?_ _ | refine blk_drew ?_ | refine blk_alloc ?_ _)); refine blk_far ?_ NB124_125.out _; (with_reducible repeat (first | refine blk_drewN ?_ _ | refine blk_drew ?_ | refine blk_alloc ?_ _)); exact BK124.out) Try.underlying62 rfl (by kernel_rfl)) rfl ?_
  exact bF
/-! ### wide_Wide_Int: function 77 -/
def wide_Wide_Int.f (a0_0 : Int) (a0_1 : Int) : Option (Int × Bool) := (wide_Of.f (wrap64 (a0_1))).bind fun bt127 => (if (!(bt127.1 == a0_0) || (!(bt127.2 == a0_1))) = true then (some (0, false)) else (some (wrap64 (a0_1), true)))
set_option maxHeartbeats 8000000 in
set_option maxRecDepth 100000 in
theorem wide_Wide_Int.calls (a0_0 : Int) (a0_1 : Int) (r1 : Int) (r2 : Bool) (w : World) (h : wide_Wide_Int.f a0_0 a0_1 = some (r1, r2)) :
  Calls Try.prog 77 #[.agg #[.int .i64 a0_0, .int .u64 a0_1]] w fun e w' => e = .returned (.tuple #[.int .i64 r1, .bool r2]) ∧ Below w.heap.size w w' := by
 have hu62 := Try.underlying62
 have HB := bA (Below.refl w.heap.size w)
 have H : ((wide_Of.f (wrap64 (a0_1))).bind fun bt127 => (if (!(bt127.1 == a0_0) || (!(bt127.2 == a0_1))) = true then (some (0, false)) else (some (wrap64 (a0_1), true)))) = some (r1, r2) := h
 clear h
 replace H := Option.bind_eq_some_iff.mp H
 obtain ⟨⟨t127, t128⟩, A20, H⟩ := H
 replace H : (if (!(t127 == a0_0) || (!(t128 == a0_1))) = true then (some (0, false)) else (some (wrap64 (a0_1), true))) = some (r1, r2) := H
 have A2 := bA A20
 clear A20
 by_cases c3 : (!(t127 == a0_0) || (!(t128 == a0_1))) = true
 ·rw [if_pos c3] at H
  have c3b0 : (!(t127 == a0_0) || (!(t128 == a0_1))) = true := c3
  clear c3
  simp only [Option.some.injEq, Prod.mk.injEq] at H
  obtain ⟨rfl, rfl⟩ := H
  go_enter Try.func77, Try.ntmps77
  try go_wp2_with (first | ((with_reducible refine gate_dst (N := 1) rfl ?_); refine bE (N := 1) (cs := #[.int .i64 a0_0, .int .u64 a0_1]) (t := 62) ?_; intro gb126 hg w4 hbox hb; have n0_ := bA (bS hb); have n1_ := bA (hbox); have n2_ := bA ((bZ hg : w.heap.size ≤ gb126)); have n3_ := bA ((bZ hg : w.heap.size ≤ gb126)); clear HB; have HB := n0_; have BK126 := n1_; have GW126 := n2_; have GE126 := n3_; clear n0_ n1_ n2_ n3_; clear hb hbox hg; have hcz5_0 : w4.cell? ⟨gb126, 0, none⟩ = some (.int .i64 a0_0) := (blk_cell BK126.out 0).trans rfl; have hcz5_1 : w4.cell? ⟨gb126, 1, none⟩ = some (.int .u64 a0_1) := (blk_cell BK126.out 1).trans rfl; have hfz5_0 := blk_frozen BK126.out 0; have hfz5_1 := blk_frozen BK126.out 1))
  have n0_ := bA (blk_drew BK126.out)
  have n1_ := bA (below_drew1 HB.out)
  clear BK126
  clear HB
  have BK126 := n0_
  have HB := n1_
  clear n0_ n1_
  refine start_ (n := 4) (S := fun w' => w'.cell? ⟨gb126, 0, none⟩ = some (.int .i64 a0_0) ∧ w'.cell? ⟨gb126, 1, none⟩ = some (.int .u64 a0_1)) (ds := []) #[false, false, false, false] (by kernel_rfl) rfl rfl ⟨(blk_cell BK126.out 0).trans rfl, (blk_cell BK126.out 1).trans rfl⟩ (fun hHeld => ?_)
  generalize w4.drew = w6 at BK126 HB hHeld ⊢
  refine pure_ (i := 0) (N := some 8) (v := ?_) (a' := ?_) #[true, false, false, false] rfl rfl (by kernel_rfl) (fun _ _ _ h => h) (Or.inl ⟨by rfl, ?_⟩) ?_ ?_
  rotate_left
  ·intro w'
   go_simp
   with_reducible rfl
  rotate_left
  ·simp only [Act.put, List.setIfInBounds_toArray, List.set_cons_zero, List.set_cons_succ, i64_w, i32_w]
   rfl
  refine take_ (i := 2) (N := some 10) (v := ?_) (a' := ?_) #[true, false, true, false] rfl rfl (by kernel_rfl) (fun _ _ _ h => h) (Or.inl ⟨by rfl, ?_⟩) hHeld ?_ ?_
  rotate_left
  ·rintro w' ⟨s0, s1⟩
   go_simp
   with_reducible rfl
  rotate_left
  ·simp only [Act.put, List.setIfInBounds_toArray, List.set_cons_zero, List.set_cons_succ, i64_w, i32_w]
   rfl
  refine one_ (i := 1) (N := some 9) #[true, true, true, false] rfl rfl (by kernel_rfl) (by decide) (fun K hK => ?_)
  refine goes_ Try.func68 (by kernel_rfl) rfl #[.int .i64 (wrap64 (a0_1))] (by rfl) rfl rfl (by (try simp only [List.map_toArray, List.map_cons, List.map_nil]); first | done | rfl | (simp only [List.length_drop, List.length_take]; rfl)) ?_
  with_reducible refine (wide_Of.calls (wrap64 (a0_1)) t127 t128 _ A2.out).mono ?_
  rintro e w7 ⟨rfl, hb⟩
  refine ⟨_, rfl, ?_⟩
  have n0_ := bA (bB BK126 hb)
  have n1_ := bA (bS hb)
  clear BK126
  clear HB
  have BK126 := n0_
  have HB := n1_
  clear n0_ n1_
  (try clear hb)
  (try clear hb2)
  (try clear hk)
  (try clear hi)
  refine hK.out _ _ ⟨(blk_cell BK126.out 0).trans rfl, (blk_cell BK126.out 1).trans rfl⟩ (fun hHeld => ?_)
  clear hK K
  refine norm_ (a' := ?_) ?_ ?_
  rotate_left
  ·show Act.put _ (some 9) _ = _
   simp only [Act.put, List.setIfInBounds_toArray, List.set_cons_zero, List.set_cons_succ, i64_w, i32_w]
   rfl
  refine pure_ (i := 3) (N := some 11) (v := ?_) (a' := ?_) #[true, true, true, true] rfl rfl (by kernel_rfl) (fun _ _ _ h => h) (Or.inl ⟨by rfl, ?_⟩) ?_ ?_
  rotate_left
  ·intro w'
   go_simp
   with_reducible rfl
  rotate_left
  ·simp only [Act.put, List.setIfInBounds_toArray, List.set_cons_zero, List.set_cons_succ, i64_w, i32_w]
   rfl
  refine done_ (by kernel_rfl) ?_
  try go_wp2
  go_ret2
  exact bF
 ·rw [if_neg c3] at H
  have c3b0 : (!(t127 == a0_0) || (!(t128 == a0_1))) = false := by simpa using c3
  clear c3
  simp only [Option.some.injEq, Prod.mk.injEq] at H
  obtain ⟨rfl, rfl⟩ := H
  go_enter Try.func77, Try.ntmps77
  try go_wp2_with (first | ((with_reducible refine gate_dst (N := 1) rfl ?_); refine bE (N := 1) (cs := #[.int .i64 a0_0, .int .u64 a0_1]) (t := 62) ?_; intro gb126 hg w8 hbox hb; have n0_ := bA (bS hb); have n1_ := bA (hbox); have n2_ := bA ((bZ hg : w.heap.size ≤ gb126)); have n3_ := bA ((bZ hg : w.heap.size ≤ gb126)); clear HB; have HB := n0_; have BK126 := n1_; have GW126 := n2_; have GE126 := n3_; clear n0_ n1_ n2_ n3_; clear hb hbox hg; have hcz9_0 : w8.cell? ⟨gb126, 0, none⟩ = some (.int .i64 a0_0) := (blk_cell BK126.out 0).trans rfl; have hcz9_1 : w8.cell? ⟨gb126, 1, none⟩ = some (.int .u64 a0_1) := (blk_cell BK126.out 1).trans rfl; have hfz9_0 := blk_frozen BK126.out 0; have hfz9_1 := blk_frozen BK126.out 1))
  have n0_ := bA (blk_drew BK126.out)
  have n1_ := bA (below_drew1 HB.out)
  clear BK126
  clear HB
  have BK126 := n0_
  have HB := n1_
  clear n0_ n1_
  refine start_ (n := 4) (S := fun w' => w'.cell? ⟨gb126, 0, none⟩ = some (.int .i64 a0_0) ∧ w'.cell? ⟨gb126, 1, none⟩ = some (.int .u64 a0_1)) (ds := []) #[false, false, false, false] (by kernel_rfl) rfl rfl ⟨(blk_cell BK126.out 0).trans rfl, (blk_cell BK126.out 1).trans rfl⟩ (fun hHeld => ?_)
  generalize w8.drew = w10 at BK126 HB hHeld ⊢
  refine pure_ (i := 0) (N := some 8) (v := ?_) (a' := ?_) #[true, false, false, false] rfl rfl (by kernel_rfl) (fun _ _ _ h => h) (Or.inl ⟨by rfl, ?_⟩) ?_ ?_
  rotate_left
  ·intro w'
   go_simp
   with_reducible rfl
  rotate_left
  ·simp only [Act.put, List.setIfInBounds_toArray, List.set_cons_zero, List.set_cons_succ, i64_w, i32_w]
   rfl
  refine take_ (i := 2) (N := some 10) (v := ?_) (a' := ?_) #[true, false, true, false] rfl rfl (by kernel_rfl) (fun _ _ _ h => h) (Or.inl ⟨by rfl, ?_⟩) hHeld ?_ ?_
  rotate_left
  ·rintro w' ⟨s0, s1⟩
   go_simp
   with_reducible rfl
  rotate_left
  ·simp only [Act.put, List.setIfInBounds_toArray, List.set_cons_zero, List.set_cons_succ, i64_w, i32_w]
   rfl
  refine one_ (i := 1) (N := some 9) #[true, true, true, false] rfl rfl (by kernel_rfl) (by decide) (fun K hK => ?_)
  refine goes_ Try.func68 (by kernel_rfl) rfl #[.int .i64 (wrap64 (a0_1))] (by rfl) rfl rfl (by (try simp only [List.map_toArray, List.map_cons, List.map_nil]); first | done | rfl | (simp only [List.length_drop, List.length_take]; rfl)) ?_
  with_reducible refine (wide_Of.calls (wrap64 (a0_1)) t127 t128 _ A2.out).mono ?_
  rintro e w11 ⟨rfl, hb⟩
  refine ⟨_, rfl, ?_⟩
  have n0_ := bA (bB BK126 hb)
  have n1_ := bA (bS hb)
  clear BK126
  clear HB
  have BK126 := n0_
  have HB := n1_
  clear n0_ n1_
  (try clear hb)
  (try clear hb2)
  (try clear hk)
  (try clear hi)
  refine hK.out _ _ ⟨(blk_cell BK126.out 0).trans rfl, (blk_cell BK126.out 1).trans rfl⟩ (fun hHeld => ?_)
  clear hK K
  refine norm_ (a' := ?_) ?_ ?_
  rotate_left
  ·show Act.put _ (some 9) _ = _
   simp only [Act.put, List.setIfInBounds_toArray, List.set_cons_zero, List.set_cons_succ, i64_w, i32_w]
   rfl
  refine pure_ (i := 3) (N := some 11) (v := ?_) (a' := ?_) #[true, true, true, true] rfl rfl (by kernel_rfl) (fun _ _ _ h => h) (Or.inl ⟨by rfl, ?_⟩) ?_ ?_
  rotate_left
  ·intro w'
   go_simp
   with_reducible rfl
  rotate_left
  ·simp only [Act.put, List.setIfInBounds_toArray, List.set_cons_zero, List.set_cons_succ, i64_w, i32_w]
   rfl
  refine done_ (by kernel_rfl) ?_
  try go_wp2
  go_ret2
  exact bF
/-! ### fix_told: function 69 -/
def fix_told.f (a0_0 : Int) (a0_1 : Int) (a1 : Bool) : Option (Int × Bool) := if a1 = true then ((wide_Wide_Int.f a0_0 a0_1).bind fun bt130 => (some (bt130.1, bt130.2))) else (some (0, false))
set_option maxHeartbeats 8000000 in
set_option maxRecDepth 100000 in
theorem fix_told.calls (a0_0 : Int) (a0_1 : Int) (a1 : Bool) (r1 : Int) (r2 : Bool) (w : World) (h : fix_told.f a0_0 a0_1 a1 = some (r1, r2)) :
  Calls Try.prog 69 #[.agg #[.int .i64 a0_0, .int .u64 a0_1], .bool a1] w fun e w' => e = .returned (.tuple #[.int .i64 r1, .bool r2]) ∧ Below w.heap.size w w' := by
 have hu62 := Try.underlying62
 have HB := bA (Below.refl w.heap.size w)
 have H : (if a1 = true then ((wide_Wide_Int.f a0_0 a0_1).bind fun bt130 => (some (bt130.1, bt130.2))) else (some (0, false))) = some (r1, r2) := h
 clear h
 by_cases c3 : a1 = true
 subst c3
 rw [if_pos rfl] at H
 replace H := Option.bind_eq_some_iff.mp H
 obtain ⟨⟨t130, t131⟩, A40, H⟩ := H
 replace H : (some (t130, t131)) = some (r1, r2) := H
 have A4 := bA A40
 clear A40
 simp only [Option.some.injEq, Prod.mk.injEq] at H
 obtain ⟨rfl, rfl⟩ := H
 rotate_left
 replace c3 := Bool.eq_false_iff.mpr c3
 subst c3
 rw [if_neg (show ¬ (false = true) by decide)] at H
 simp only [Option.some.injEq, Prod.mk.injEq] at H
 obtain ⟨rfl, rfl⟩ := H
 rotate_left
 all_goals go_enter Try.func69, Try.ntmps69
 all_goals go_wp2_with (first | ((with_reducible refine gate_dst (N := 2) rfl ?_); refine bE (N := 2) (cs := #[.int .i64 a0_0, .int .u64 a0_1]) (t := 62) ?_; intro gb129 hg wz0 hbox hb; have n0_ := bA (bS hb); have n1_ := bA (hbox); have n2_ := bA ((bZ hg : w.heap.size ≤ gb129)); have n3_ := bA ((bZ hg : w.heap.size ≤ gb129)); clear HB; have HB := n0_; have BK129 := n1_; have GW129 := n2_; have GE129 := n3_; clear n0_ n1_ n2_ n3_; clear hb hbox hg; have hz1 : wz0.cell? ⟨gb129, 0, none⟩ = some (.int .i64 a0_0) := (blk_cell BK129.out 0).trans rfl; have hz2 : wz0.cell? ⟨gb129, 1, none⟩ = some (.int .u64 a0_1) := (blk_cell BK129.out 1).trans rfl; have hz3 := blk_frozen BK129.out 0; have hz4 := blk_frozen BK129.out 1) | ((first | ((with_reducible refine gate_callee (f := 77) rfl ?_); refine bC (some 9) Try.func77 #[.agg #[.int .i64 a0_0, .int .u64 a0_1]] ?_) | go_at_call 77); (with_reducible refine (wide_Wide_Int.calls a0_0 a0_1 t130 t131 _ A4.out).mono ?_); rintro e wz1 ⟨rfl, hb⟩; (first | refine ⟨_, rfl, ?_⟩ | skip); have n0_ := bA (bB BK129 hb); have n1_ := bA (bS hb); clear BK129; clear HB; have BK129 := n0_; have HB := n1_; clear n0_ n1_; (try clear hb); (try clear hb2); (try clear hk); (try clear hi)))
 all_goals (go_ret2; exact bF)
/-! ### fix_Add: function 54 -/
def fix_Add.f (a0 : Int) (a1 : Int) : Option (Int × Bool) := (wide_Of.f a0).bind fun bt132 => ((wide_Of.f a1).bind fun bt134 => ((wide_Wide_Add.f bt132.1 bt132.2 bt134.1 bt134.2).bind fun bt136 => ((fix_told.f bt136.1 bt136.2.1 bt136.2.2).bind fun bt139 => (some (bt139.1, bt139.2)))))
set_option maxHeartbeats 8000000 in
set_option maxRecDepth 100000 in
theorem fix_Add.calls (a0 : Int) (a1 : Int) (r1 : Int) (r2 : Bool) (w : World) (h : fix_Add.f a0 a1 = some (r1, r2)) :
  Calls Try.prog 54 #[.int .i64 a0, .int .i64 a1] w fun e w' => e = .returned (.tuple #[.int .i64 r1, .bool r2]) ∧ Below w.heap.size w w' := by
 have HB := bA (Below.refl w.heap.size w)
 have H : ((wide_Of.f a0).bind fun bt132 => ((wide_Of.f a1).bind fun bt134 => ((wide_Wide_Add.f bt132.1 bt132.2 bt134.1 bt134.2).bind fun bt136 => ((fix_told.f bt136.1 bt136.2.1 bt136.2.2).bind fun bt139 => (some (bt139.1, bt139.2)))))) = some (r1, r2) := h
 clear h
 replace H := Option.bind_eq_some_iff.mp H
 obtain ⟨⟨t132, t133⟩, A30, H⟩ := H
 replace H : ((wide_Of.f a1).bind fun bt134 => ((wide_Wide_Add.f t132 t133 bt134.1 bt134.2).bind fun bt136 => ((fix_told.f bt136.1 bt136.2.1 bt136.2.2).bind fun bt139 => (some (bt139.1, bt139.2))))) = some (r1, r2) := H
 have A3 := bA A30
 clear A30
 replace H := Option.bind_eq_some_iff.mp H
 obtain ⟨⟨t134, t135⟩, A40, H⟩ := H
 replace H : ((wide_Wide_Add.f t132 t133 t134 t135).bind fun bt136 => ((fix_told.f bt136.1 bt136.2.1 bt136.2.2).bind fun bt139 => (some (bt139.1, bt139.2)))) = some (r1, r2) := H
 have A4 := bA A40
 clear A40
 replace H := Option.bind_eq_some_iff.mp H
 obtain ⟨⟨t136, t137, t138⟩, A50, H⟩ := H
 replace H : ((fix_told.f t136 t137 t138).bind fun bt139 => (some (bt139.1, bt139.2))) = some (r1, r2) := H
 have A5 := bA A50
 clear A50
 replace H := Option.bind_eq_some_iff.mp H
 obtain ⟨⟨t139, t140⟩, A60, H⟩ := H
 replace H : (some (t139, t140)) = some (r1, r2) := H
 have A6 := bA A60
 clear A60
 simp only [Option.some.injEq, Prod.mk.injEq] at H
 obtain ⟨rfl, rfl⟩ := H
 go_enter Try.func54, Try.ntmps54
 go_wp2_with (first | ((first | ((with_reducible refine gate_callee (f := 68) rfl ?_); refine bC (some 7) Try.func68 #[.int .i64 a0] ?_) | go_at_call 68); (with_reducible refine (wide_Of.calls a0 t132 t133 _ A3.out).mono ?_); rintro e w7 ⟨rfl, hb⟩; (first | refine ⟨_, rfl, ?_⟩ | skip); have n0_ := bA (bS hb); clear HB; have HB := n0_; clear n0_; (try clear hb); (try clear hb2); (try clear hk); (try clear hi)) | ((first | ((with_reducible refine gate_callee (f := 68) rfl ?_); refine bC (some 9) Try.func68 #[.int .i64 a1] ?_) | go_at_call 68); (with_reducible refine (wide_Of.calls a1 t134 t135 _ A4.out).mono ?_); rintro e w8 ⟨rfl, hb⟩; (first | refine ⟨_, rfl, ?_⟩ | skip); have n0_ := bA (bS hb); clear HB; have HB := n0_; clear n0_; (try clear hb); (try clear hb2); (try clear hk); (try clear hi)) | ((first | ((with_reducible refine gate_callee (f := 70) rfl ?_); refine bC (some 10) Try.func70 #[.agg #[.int .i64 t132, .int .u64 t133], .agg #[.int .i64 t134, .int .u64 t135]] ?_) | go_at_call 70); (with_reducible refine (wide_Wide_Add.calls t132 t133 t134 t135 t136 t137 t138 _ A5.out).mono ?_); rintro e w9 ⟨rfl, hb⟩; (first | refine ⟨_, rfl, ?_⟩ | skip); have n0_ := bA (bS hb); clear HB; have HB := n0_; clear n0_; (try clear hb); (try clear hb2); (try clear hk); (try clear hi)) | ((first | ((with_reducible refine gate_callee (f := 69) rfl ?_); refine bC (some 13) Try.func69 #[.agg #[.int .i64 t136, .int .u64 t137], .bool t138] ?_) | go_at_call 69); (with_reducible refine (fix_told.calls t136 t137 t138 t139 t140 _ A6.out).mono ?_); rintro e w10 ⟨rfl, hb⟩; (first | refine ⟨_, rfl, ?_⟩ | skip); have n0_ := bA (bS hb); clear HB; have HB := n0_; clear n0_; (try clear hb); (try clear hb2); (try clear hk); (try clear hi)))
 go_ret2
 exact bF
end Go.Proofs.Ytlifeghjcgbfnaa.G
