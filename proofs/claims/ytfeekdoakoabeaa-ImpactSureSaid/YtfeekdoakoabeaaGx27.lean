-- Written by a program of this session out of the translation; Lean checks it.
import Derived.Test.YtfeekdoakoabeaaGx0
import Derived.Test.YtfeekdoakoabeaaGx17
namespace Go.Proofs.Ytfeekdoakoabeaa.G
open Go.RowKit Go.Proofs.YtfeekdoakoabeaaW.PrintWords Go.Proofs.YtfeekdoakoabeaaW.PrintLast Go.Proofs.YtfeekdoakoabeaaW.PrintMore
attribute [local go_sem] max2_int min2_int max_two min_two max_three min_three max_four min_four   -- for this text's walks alone
set_option linter.unusedVariables false
set_option linter.unusedSimpArgs false

/-! ### apogeeref12_Right: function 26 -/
def apogeeref12_Right.f (a0_0 : Int) (a0_1 : Int) (a0_2 : Int) (a0_3 : Int) : Option (Bool) := (apogeeref10_Right.f a0_0 a0_1).bind fun t613 => (if t613 = true then ((apogeeref10_Right.f a0_2 a0_3).bind fun t614 => (if t614 = true then (if a0_0 ≤ a0_2 then (some (decide (a0_1 ≤ a0_3))) else (some false)) else (some false))) else (some false))
set_option maxHeartbeats 8000000 in
set_option maxRecDepth 100000 in
theorem apogeeref12_Right.calls (a0_0 : Int) (a0_1 : Int) (a0_2 : Int) (a0_3 : Int) (r : Bool) (w : World) (h : apogeeref12_Right.f a0_0 a0_1 a0_2 a0_3 = some r) :
  Calls Try.prog 26 #[.agg #[.int .i64 a0_0, .int .i64 a0_1, .int .i64 a0_2, .int .i64 a0_3]] w fun e w' => e = .returned (.bool r) ∧ Below w.heap.size w w' := by
 have hu30 := Try.underlying30
 have hu28 := Try.underlying28
 have HB := bA (Below.refl w.heap.size w)
 have H : ((apogeeref10_Right.f a0_0 a0_1).bind fun t613 => (if t613 = true then ((apogeeref10_Right.f a0_2 a0_3).bind fun t614 => (if t614 = true then (if a0_0 ≤ a0_2 then (some (decide (a0_1 ≤ a0_3))) else (some false)) else (some false))) else (some false))) = some r := h
 clear h
 replace H := Option.bind_eq_some_iff.mp H
 obtain ⟨t613, A20, H⟩ := H
 have A2 := bA A20
 clear A20
 by_cases c3 : t613 = true
 subst c3
 rw [if_pos rfl] at H
 replace H := Option.bind_eq_some_iff.mp H
 obtain ⟨t614, A40, H⟩ := H
 have A4 := bA A40
 clear A40
 by_cases c5 : t614 = true
 subst c5
 rw [if_pos rfl] at H
 by_cases c6 : a0_0 ≤ a0_2
 rw [if_pos c6] at H
 have c6b0 : decide (a0_0 ≤ a0_2) = true := decide_eq_true c6
 clear c6
 obtain rfl := Option.some.inj H
 rotate_left
 rw [if_neg c6] at H
 have c6b0 : decide (a0_0 ≤ a0_2) = false := decide_eq_false c6
 clear c6
 obtain rfl := Option.some.inj H
 rotate_left
 replace c5 := Bool.eq_false_iff.mpr c5
 subst c5
 rw [if_neg bn] at H
 obtain rfl := Option.some.inj H
 rotate_left
 replace c3 := Bool.eq_false_iff.mpr c3
 subst c3
 rw [if_neg bn] at H
 obtain rfl := Option.some.inj H
 rotate_left
 all_goals go_enter Try.func26, Try.ntmps26
 all_goals go_wp2_with (first | ((with_reducible refine gate_dst (N := 1) rfl ?_); refine bE (N := 1) (cs := #[.int .i64 a0_0, .int .i64 a0_1, .int .i64 a0_2, .int .i64 a0_3]) (t := 30) ?_; intro gb612 hg wz0 hbox hb; have BK612 := bA (hbox); have GW612 := bA (bZ hg); have GE612 := bA (bZ hg); replace HB := bA (bS hb); clear hb hbox hg; obtain ⟨hz1, hz2, hz3, hz4, hz5, hz6, hz7, hz8⟩ := bc4 BK612) | ((first | ((with_reducible refine gate_callee (f := 27) rfl ?_); refine bC (some 5) Try.func27 #[.agg #[.int .i64 a0_0, .int .i64 a0_1]] ?_) | go_at_call 27); (with_reducible refine (apogeeref10_Right.calls a0_0 a0_1 true _ A2.out).mono ?_); rintro e wz1 ⟨rfl, hb⟩; (first | refine ⟨_, rfl, ?_⟩ | skip); replace BK612 := bA (bB BK612 hb); replace HB := bA (bS hb); (try clear hb); obtain ⟨hz9, hz10, hz11, hz12, hz5, hz6, hz7, hz8⟩ := bc4 BK612) | (go_at_call 27; (with_reducible refine (apogeeref10_Right.calls a0_2 a0_3 true _ A4.out).mono ?_); rintro e wz2 ⟨rfl, hb⟩; replace BK612 := bA (bB BK612 hb); replace HB := bA (bS hb); (try clear hb); obtain ⟨hz13, hz14, hz15, hz16, hz5, hz6, hz7, hz8⟩ := bc4 BK612) | (go_at_call 27; (with_reducible refine (apogeeref10_Right.calls a0_2 a0_3 false _ A4.out).mono ?_); rintro e wz2 ⟨rfl, hb⟩; replace BK612 := bA (bB BK612 hb); replace HB := bA (bS hb); (try clear hb)) | ((first | ((with_reducible refine gate_callee (f := 27) rfl ?_); refine bC (some 5) Try.func27 #[.agg #[.int .i64 a0_0, .int .i64 a0_1]] ?_) | go_at_call 27); (with_reducible refine (apogeeref10_Right.calls a0_0 a0_1 false _ A2.out).mono ?_); rintro e wz1 ⟨rfl, hb⟩; (first | refine ⟨_, rfl, ?_⟩ | skip); replace BK612 := bA (bB BK612 hb); replace HB := bA (bS hb); (try clear hb)))
 all_goals (go_ret; exact bF)
/-! ### apogeeref12_Has: function 12 -/
def apogeeref12_Has.f (a0_0 : Int) (a0_1 : Int) (a0_2 : Int) (a0_3 : Int) (a1_0 : Int) (a1_1 : Int) : Option (Bool) := (apogeeref12_Right.f a0_0 a0_1 a0_2 a0_3).bind fun t617 => (if t617 = true then ((apogeeref10_Right.f a1_0 a1_1).bind fun t618 => (if t618 = true then (if a1_0 ≥ a0_0 then (if a1_0 ≤ a0_2 then (if a1_1 ≥ a0_1 then (some (decide (a1_1 ≤ a0_3))) else (some false)) else (some false)) else (some false)) else (some false))) else (some false))
set_option maxHeartbeats 8000000 in
set_option maxRecDepth 100000 in
theorem apogeeref12_Has.calls (a0_0 : Int) (a0_1 : Int) (a0_2 : Int) (a0_3 : Int) (a1_0 : Int) (a1_1 : Int) (r : Bool) (w : World) (h : apogeeref12_Has.f a0_0 a0_1 a0_2 a0_3 a1_0 a1_1 = some r) :
  Calls Try.prog 12 #[.agg #[.int .i64 a0_0, .int .i64 a0_1, .int .i64 a0_2, .int .i64 a0_3], .agg #[.int .i64 a1_0, .int .i64 a1_1]] w fun e w' => e = .returned (.bool r) ∧ Below w.heap.size w w' := by
 have hu30 := Try.underlying30
 have hu28 := Try.underlying28
 have HB := bA (Below.refl w.heap.size w)
 have H : ((apogeeref12_Right.f a0_0 a0_1 a0_2 a0_3).bind fun t617 => (if t617 = true then ((apogeeref10_Right.f a1_0 a1_1).bind fun t618 => (if t618 = true then (if a1_0 ≥ a0_0 then (if a1_0 ≤ a0_2 then (if a1_1 ≥ a0_1 then (some (decide (a1_1 ≤ a0_3))) else (some false)) else (some false)) else (some false)) else (some false))) else (some false))) = some r := h
 clear h
 replace H := Option.bind_eq_some_iff.mp H
 obtain ⟨t617, A30, H⟩ := H
 have A3 := bA A30
 clear A30
 by_cases c4 : t617 = true
 subst c4
 rw [if_pos rfl] at H
 replace H := Option.bind_eq_some_iff.mp H
 obtain ⟨t618, A50, H⟩ := H
 have A5 := bA A50
 clear A50
 by_cases c6 : t618 = true
 subst c6
 rw [if_pos rfl] at H
 by_cases c7 : a1_0 ≥ a0_0
 rw [if_pos c7] at H
 have c7b0 : decide (a0_0 ≤ a1_0) = true := decide_eq_true c7
 clear c7
 by_cases c8 : a1_0 ≤ a0_2
 rw [if_pos c8] at H
 have c8b0 : decide (a1_0 ≤ a0_2) = true := decide_eq_true c8
 clear c8
 by_cases c9 : a1_1 ≥ a0_1
 rw [if_pos c9] at H
 have c9b0 : decide (a0_1 ≤ a1_1) = true := decide_eq_true c9
 clear c9
 obtain rfl := Option.some.inj H
 rotate_left
 rw [if_neg c9] at H
 have c9b0 : decide (a0_1 ≤ a1_1) = false := decide_eq_false c9
 clear c9
 obtain rfl := Option.some.inj H
 rotate_left
 rw [if_neg c8] at H
 have c8b0 : decide (a1_0 ≤ a0_2) = false := decide_eq_false c8
 clear c8
 obtain rfl := Option.some.inj H
 rotate_left
 rw [if_neg c7] at H
 have c7b0 : decide (a0_0 ≤ a1_0) = false := decide_eq_false c7
 clear c7
 obtain rfl := Option.some.inj H
 rotate_left
 replace c6 := Bool.eq_false_iff.mpr c6
 subst c6
 rw [if_neg bn] at H
 obtain rfl := Option.some.inj H
 rotate_left
 replace c4 := Bool.eq_false_iff.mpr c4
 subst c4
 rw [if_neg bn] at H
 obtain rfl := Option.some.inj H
 rotate_left
 all_goals go_enter Try.func12, Try.ntmps12
 all_goals go_wp2_with (first | ((with_reducible refine gate_dst (N := 2) rfl ?_); refine bE (N := 2) (cs := #[.int .i64 a0_0, .int .i64 a0_1, .int .i64 a0_2, .int .i64 a0_3]) (t := 30) ?_; intro gb615 hg wz0 hbox hb; have BK615 := bA (hbox); have GW615 := bA (bZ hg); have GE615 := bA (bZ hg); replace HB := bA (bS hb); clear hb hbox hg) | ((with_reducible refine gate_dst (N := 3) rfl ?_); refine bE (N := 3) (cs := #[.int .i64 a1_0, .int .i64 a1_1]) (t := 28) ?_; intro gb616 hg wz1 hbox hb; have BK616 := bA (hbox); have GW616 := bA (bZ hg); have GE616 := bA (bZ hg); have NB615_616 := bA (bL BK615 hg); have NB616_615 := bA (bG BK615 hg); replace BK615 := bA (bB BK615 hb); replace HB := bA (bS hb); clear hb hbox hg; have hz1 := NB615_616.out; have hz2 := NB616_615.out; obtain ⟨hz3, hz4, hz5, hz6, hz7, hz8, hz9, hz10⟩ := bc4 BK615) | ((first | ((with_reducible refine gate_callee (f := 26) rfl ?_); refine bC (some 6) Try.func26 #[.agg #[.int .i64 a0_0, .int .i64 a0_1, .int .i64 a0_2, .int .i64 a0_3]] ?_) | go_at_call 26); (with_reducible refine (apogeeref12_Right.calls a0_0 a0_1 a0_2 a0_3 true _ A3.out).mono ?_); rintro e wz2 ⟨rfl, hb⟩; (first | refine ⟨_, rfl, ?_⟩ | skip); replace BK615 := bA (bB BK615 hb); replace BK616 := bA (bB BK616 hb); replace HB := bA (bS hb); (try clear hb); obtain ⟨hz11, hz12, hz13, hz14⟩ := bc2 BK616) | (go_at_call 27; (with_reducible refine (apogeeref10_Right.calls a1_0 a1_1 true _ A5.out).mono ?_); rintro e wz3 ⟨rfl, hb⟩; replace BK615 := bA (bB BK615 hb); replace BK616 := bA (bB BK616 hb); replace HB := bA (bS hb); (try clear hb); obtain ⟨hz15, hz16, hz13, hz14⟩ := bc2 BK616; obtain ⟨hz17, hz18, hz19, hz20, hz7, hz8, hz9, hz10⟩ := bc4 BK615) | (go_at_call 27; (with_reducible refine (apogeeref10_Right.calls a1_0 a1_1 false _ A5.out).mono ?_); rintro e wz3 ⟨rfl, hb⟩; replace BK615 := bA (bB BK615 hb); replace BK616 := bA (bB BK616 hb); replace HB := bA (bS hb); (try clear hb)) | ((first | ((with_reducible refine gate_callee (f := 26) rfl ?_); refine bC (some 6) Try.func26 #[.agg #[.int .i64 a0_0, .int .i64 a0_1, .int .i64 a0_2, .int .i64 a0_3]] ?_) | go_at_call 26); (with_reducible refine (apogeeref12_Right.calls a0_0 a0_1 a0_2 a0_3 false _ A3.out).mono ?_); rintro e wz2 ⟨rfl, hb⟩; (first | refine ⟨_, rfl, ?_⟩ | skip); replace BK615 := bA (bB BK615 hb); replace BK616 := bA (bB BK616 hb); replace HB := bA (bS hb); (try clear hb)))
 all_goals (go_ret; exact bF)
end Go.Proofs.Ytfeekdoakoabeaa.G
