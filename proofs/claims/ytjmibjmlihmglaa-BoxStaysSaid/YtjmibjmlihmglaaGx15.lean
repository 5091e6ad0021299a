-- Written by a program of this session out of the translation; Lean checks it.
import Derived.Test.YtjmibjmlihmglaaGx0
namespace Go.Proofs.Ytjmibjmlihmglaa.G
open Go.RowKit Go.Proofs.YtjmibjmlihmglaaW.PrintWords Go.Proofs.YtjmibjmlihmglaaW.PrintLast Go.Proofs.YtjmibjmlihmglaaW.PrintMore
attribute [local go_sem] max2_int min2_int max_two min_two max_three min_three max_four min_four   -- for this text's walks alone
set_option linter.unusedVariables false
set_option linter.unusedSimpArgs false

/-! ### apogeeref10_Right: function 40 -/
def apogeeref10_Right.f (a0_0 : Int) (a0_1 : Int) : Option (Bool) := if a0_0 ≥ (-1099511627776) then (if a0_0 ≤ 1099511627776 then (if a0_1 ≥ (-1099511627776) then (some (decide (a0_1 ≤ 1099511627776))) else (some false)) else (some false)) else (some false)
set_option maxHeartbeats 8000000 in
set_option maxRecDepth 100000 in
theorem apogeeref10_Right.calls (a0_0 : Int) (a0_1 : Int) (r : Bool) (w : World) (h : apogeeref10_Right.f a0_0 a0_1 = some r) :
  Calls Try.prog 40 #[.agg #[.int .i64 a0_0, .int .i64 a0_1]] w fun e w' => e = .returned (.bool r) ∧ Below w.heap.size w w' := by
 have hu41 := Try.underlying41
 have HB := bA (Below.refl w.heap.size w)
 have H : (if a0_0 ≥ (-1099511627776) then (if a0_0 ≤ 1099511627776 then (if a0_1 ≥ (-1099511627776) then (some (decide (a0_1 ≤ 1099511627776))) else (some false)) else (some false)) else (some false)) = some r := h
 clear h
 by_cases c2 : a0_0 ≥ (-1099511627776)
 rw [if_pos c2] at H
 have c2b0 : decide ((-1099511627776) ≤ a0_0) = true := decide_eq_true c2
 clear c2
 by_cases c3 : a0_0 ≤ 1099511627776
 rw [if_pos c3] at H
 have c3b0 : decide (a0_0 ≤ 1099511627776) = true := decide_eq_true c3
 clear c3
 by_cases c4 : a0_1 ≥ (-1099511627776)
 rw [if_pos c4] at H
 have c4b0 : decide ((-1099511627776) ≤ a0_1) = true := decide_eq_true c4
 clear c4
 obtain rfl := Option.some.inj H
 rotate_left
 rw [if_neg c4] at H
 have c4b0 : decide ((-1099511627776) ≤ a0_1) = false := decide_eq_false c4
 clear c4
 obtain rfl := Option.some.inj H
 rotate_left
 rw [if_neg c3] at H
 have c3b0 : decide (a0_0 ≤ 1099511627776) = false := decide_eq_false c3
 clear c3
 obtain rfl := Option.some.inj H
 rotate_left
 rw [if_neg c2] at H
 have c2b0 : decide ((-1099511627776) ≤ a0_0) = false := decide_eq_false c2
 clear c2
 obtain rfl := Option.some.inj H
 rotate_left
 all_goals go_enter Try.func40, Try.ntmps40
 all_goals go_wp2_with (first | ((with_reducible refine gate_dst (N := 1) rfl ?_); refine bE (N := 1) (cs := #[.int .i64 a0_0, .int .i64 a0_1]) (t := 41) ?_; intro gb412 hg wz0 hbox hb; have BK412 := bA (hbox); have GW412 := bA (bZ hg); have GE412 := bA (bZ hg); replace HB := bA (bS hb); clear hb hbox hg; obtain ⟨hz1, hz2, hz3, hz4⟩ := bc2 BK412))
 all_goals (go_ret; exact bF)
/-! ### apogeeref12_Right: function 49 -/
def apogeeref12_Right.f (a0_0 : Int) (a0_1 : Int) (a0_2 : Int) (a0_3 : Int) : Option (Bool) := (apogeeref10_Right.f a0_0 a0_1).bind fun t414 => (if t414 = true then ((apogeeref10_Right.f a0_2 a0_3).bind fun t415 => (if t415 = true then (if a0_0 ≤ a0_2 then (some (decide (a0_1 ≤ a0_3))) else (some false)) else (some false))) else (some false))
set_option maxHeartbeats 8000000 in
set_option maxRecDepth 100000 in
theorem apogeeref12_Right.calls (a0_0 : Int) (a0_1 : Int) (a0_2 : Int) (a0_3 : Int) (r : Bool) (w : World) (h : apogeeref12_Right.f a0_0 a0_1 a0_2 a0_3 = some r) :
  Calls Try.prog 49 #[.agg #[.int .i64 a0_0, .int .i64 a0_1, .int .i64 a0_2, .int .i64 a0_3]] w fun e w' => e = .returned (.bool r) ∧ Below w.heap.size w w' := by
 have hu44 := Try.underlying44
 have hu41 := Try.underlying41
 have HB := bA (Below.refl w.heap.size w)
 have H : ((apogeeref10_Right.f a0_0 a0_1).bind fun t414 => (if t414 = true then ((apogeeref10_Right.f a0_2 a0_3).bind fun t415 => (if t415 = true then (if a0_0 ≤ a0_2 then (some (decide (a0_1 ≤ a0_3))) else (some false)) else (some false))) else (some false))) = some r := h
 clear h
 replace H := Option.bind_eq_some_iff.mp H
 obtain ⟨t414, A20, H⟩ := H
 have A2 := bA A20
 clear A20
 by_cases c3 : t414 = true
 subst c3
 rw [if_pos rfl] at H
 replace H := Option.bind_eq_some_iff.mp H
 obtain ⟨t415, A40, H⟩ := H
 have A4 := bA A40
 clear A40
 by_cases c5 : t415 = true
 subst c5
 rw [if_pos rfl] at H
 by_cases c6 : a0_0 ≤ a0_2
 rw [if_pos c6] at H
 have c6b0 : decide (a0_0 ≤ a0_2) = true := decide_eq_true c6
 clear c6
 obtain rfl := Option.some.inj H
 rotate_left
 rw [if_neg c6] at H
 have c6b0 : decide (a0_0 ≤ a0_2) = false := decide_eq_false c6
 clear c6
 obtain rfl := Option.some.inj H
 rotate_left
 replace c5 := Bool.eq_false_iff.mpr c5
 subst c5
 rw [if_neg bn] at H
 obtain rfl := Option.some.inj H
 rotate_left
 replace c3 := Bool.eq_false_iff.mpr c3
 subst c3
 rw [if_neg bn] at H
 obtain rfl := Option.some.inj H
 rotate_left
 all_goals go_enter Try.func49, Try.ntmps49
 all_goals go_wp2_with (first | ((with_reducible refine gate_dst (N := 1) rfl ?_); refine bE (N := 1) (cs := #[.int .i64 a0_0, .int .i64 a0_1, .int .i64 a0_2, .int .i64 a0_3]) (t := 44) ?_; intro gb413 hg wz0 hbox hb; have BK413 := bA (hbox); have GW413 := bA (bZ hg); have GE413 := bA (bZ hg); replace HB := bA (bS hb); clear hb hbox hg; obtain ⟨hz1, hz2, hz3, hz4, hz5, hz6, hz7, hz8⟩ := bc4 BK413) | ((first | ((with_reducible refine gate_callee (f := 40) rfl ?_); refine bC (some 5) Try.func40 #[.agg #[.int .i64 a0_0, .int .i64 a0_1]] ?_) | go_at_call 40); (with_reducible refine (apogeeref10_Right.calls a0_0 a0_1 true _ A2.out).mono ?_); rintro e wz1 ⟨rfl, hb⟩; (first | refine ⟨_, rfl, ?_⟩ | skip); replace BK413 := bA (bB BK413 hb); replace HB := bA (bS hb); (try clear hb); obtain ⟨hz9, hz10, hz11, hz12, hz5, hz6, hz7, hz8⟩ := bc4 BK413) | (go_at_call 40; (with_reducible refine (apogeeref10_Right.calls a0_2 a0_3 true _ A4.out).mono ?_); rintro e wz2 ⟨rfl, hb⟩; replace BK413 := bA (bB BK413 hb); replace HB := bA (bS hb); (try clear hb); obtain ⟨hz13, hz14, hz15, hz16, hz5, hz6, hz7, hz8⟩ := bc4 BK413) | (go_at_call 40; (with_reducible refine (apogeeref10_Right.calls a0_2 a0_3 false _ A4.out).mono ?_); rintro e wz2 ⟨rfl, hb⟩; replace BK413 := bA (bB BK413 hb); replace HB := bA (bS hb); (try clear hb)) | ((first | ((with_reducible refine gate_callee (f := 40) rfl ?_); refine bC (some 5) Try.func40 #[.agg #[.int .i64 a0_0, .int .i64 a0_1]] ?_) | go_at_call 40); (with_reducible refine (apogeeref10_Right.calls a0_0 a0_1 false _ A2.out).mono ?_); rintro e wz1 ⟨rfl, hb⟩; (first | refine ⟨_, rfl, ?_⟩ | skip); replace BK413 := bA (bB BK413 hb); replace HB := bA (bS hb); (try clear hb)))
 all_goals (go_ret; exact bF)
/-! ### apogeeref12_Has: function 94 -/
def apogeeref12_Has.f (a0_0 : Int) (a0_1 : Int) (a0_2 : Int) (a0_3 : Int) (a1_0 : Int) (a1_1 : Int) : Option (Bool) := (apogeeref12_Right.f a0_0 a0_1 a0_2 a0_3).bind fun t418 => (if t418 = true then ((apogeeref10_Right.f a1_0 a1_1).bind fun t419 => (if t419 = true then (if a1_0 ≥ a0_0 then (if a1_0 ≤ a0_2 then (if a1_1 ≥ a0_1 then (some (decide (a1_1 ≤ a0_3))) else (some false)) else (some false)) else (some false)) else (some false))) else (some false))
set_option maxHeartbeats 8000000 in
set_option maxRecDepth 100000 in
theorem apogeeref12_Has.calls (a0_0 : Int) (a0_1 : Int) (a0_2 : Int) (a0_3 : Int) (a1_0 : Int) (a1_1 : Int) (r : Bool) (w : World) (h : apogeeref12_Has.f a0_0 a0_1 a0_2 a0_3 a1_0 a1_1 = some r) :
  Calls Try.prog 94 #[.agg #[.int .i64 a0_0, .int .i64 a0_1, .int .i64 a0_2, .int .i64 a0_3], .agg #[.int .i64 a1_0, .int .i64 a1_1]] w fun e w' => e = .returned (.bool r) ∧ Below w.heap.size w w' := by
 have hu44 := Try.underlying44
 have hu41 := Try.underlying41
 have HB := bA (Below.refl w.heap.size w)
 have H : ((apogeeref12_Right.f a0_0 a0_1 a0_2 a0_3).bind fun t418 => (if t418 = true then ((apogeeref10_Right.f a1_0 a1_1).bind fun t419 => (if t419 = true then (if a1_0 ≥ a0_0 then (if a1_0 ≤ a0_2 then (if a1_1 ≥ a0_1 then (some (decide (a1_1 ≤ a0_3))) else (some false)) else (some false)) else (some false)) else (some false))) else (some false))) = some r := h
 clear h
 replace H := Option.bind_eq_some_iff.mp H
 obtain ⟨t418, A30, H⟩ := H
 have A3 := bA A30
 clear A30
 by_cases c4 : t418 = true
 subst c4
 rw [if_pos rfl] at H
 replace H := Option.bind_eq_some_iff.mp H
 obtain ⟨t419, A50, H⟩ := H
 have A5 := bA A50
 clear A50
 by_cases c6 : t419 = true
 subst c6
 rw [if_pos rfl] at H
 by_cases c7 : a1_0 ≥ a0_0
 rw [if_pos c7] at H
 have c7b0 : decide (a0_0 ≤ a1_0) = true := decide_eq_true c7
 clear c7
 by_cases c8 : a1_0 ≤ a0_2
 rw [if_pos c8] at H
 have c8b0 : decide (a1_0 ≤ a0_2) = true := decide_eq_true c8
 clear c8
 by_cases c9 : a1_1 ≥ a0_1
 rw [if_pos c9] at H
 have c9b0 : decide (a0_1 ≤ a1_1) = true := decide_eq_true c9
 clear c9
 obtain rfl := Option.some.inj H
 rotate_left
 rw [if_neg c9] at H
 have c9b0 : decide (a0_1 ≤ a1_1) = false := decide_eq_false c9
 clear c9
 obtain rfl := Option.some.inj H
 rotate_left
 rw [if_neg c8] at H
 have c8b0 : decide (a1_0 ≤ a0_2) = false := decide_eq_false c8
 clear c8
 obtain rfl := Option.some.inj H
 rotate_left
 rw [if_neg c7] at H
 have c7b0 : decide (a0_0 ≤ a1_0) = false := decide_eq_false c7
 clear c7
 obtain rfl := Option.some.inj H
 rotate_left
 replace c6 := Bool.eq_false_iff.mpr c6
 subst c6
 rw [if_neg bn] at H
 obtain rfl := Option.some.inj H
 rotate_left
 replace c4 := Bool.eq_false_iff.mpr c4
 subst c4
 rw [if_neg bn] at H
 obtain rfl := Option.some.inj H
 rotate_left
 all_goals go_enter Try.func94, Try.ntmps94
 all_goals go_wp2_with (first | ((with_reducible refine gate_dst (N := 2) rfl ?_); refine bE (N := 2) (cs := #[.int .i64 a0_0, .int .i64 a0_1, .int .i64 a0_2, .int .i64 a0_3]) (t := 44) ?_; intro gb416 hg wz0 hbox hb; have BK416 := bA (hbox); have GW416 := bA (bZ hg); have GE416 := bA (bZ hg); replace HB := bA (bS hb); clear hb hbox hg) | ((with_reducible refine gate_dst (N := 3) rfl ?_); refine bE (N := 3) (cs := #[.int .i64 a1_0, .int .i64 a1_1]) (t := 41) ?_; intro gb417 hg wz1 hbox hb; have BK417 := bA (hbox); have GW417 := bA (bZ hg); have GE417 := bA (bZ hg); have NB416_417 := bA (bL BK416 hg); have NB417_416 := bA (bG BK416 hg); replace BK416 := bA (bB BK416 hb); replace HB := bA (bS hb); clear hb hbox hg; have hz1 := NB416_417.out; have hz2 := NB417_416.out; obtain ⟨hz3, hz4, hz5, hz6, hz7, hz8, hz9, hz10⟩ := bc4 BK416) | ((first | ((with_reducible refine gate_callee (f := 49) rfl ?_); refine bC (some 6) Try.func49 #[.agg #[.int .i64 a0_0, .int .i64 a0_1, .int .i64 a0_2, .int .i64 a0_3]] ?_) | go_at_call 49); (with_reducible refine (apogeeref12_Right.calls a0_0 a0_1 a0_2 a0_3 true _ A3.out).mono ?_); rintro e wz2 ⟨rfl, hb⟩; (first | refine ⟨_, rfl, ?_⟩ | skip); replace BK416 := bA (bB BK416 hb); replace BK417 := bA (bB BK417 hb); replace HB := bA (bS hb); (try clear hb); obtain ⟨hz11, hz12, hz13, hz14⟩ := bc2 BK417) | (go_at_call 40; (with_reducible refine (apogeeref10_Right.calls a1_0 a1_1 true _ A5.out).mono ?_); rintro e wz3 ⟨rfl, hb⟩; replace BK416 := bA (bB BK416 hb); replace BK417 := bA (bB BK417 hb); replace HB := bA (bS hb); (try clear hb); obtain ⟨hz15, hz16, hz13, hz14⟩ := bc2 BK417; obtain ⟨hz17, hz18, hz19, hz20, hz7, hz8, hz9, hz10⟩ := bc4 BK416) | (go_at_call 40; (with_reducible refine (apogeeref10_Right.calls a1_0 a1_1 false _ A5.out).mono ?_); rintro e wz3 ⟨rfl, hb⟩; replace BK416 := bA (bB BK416 hb); replace BK417 := bA (bB BK417 hb); replace HB := bA (bS hb); (try clear hb)) | ((first | ((with_reducible refine gate_callee (f := 49) rfl ?_); refine bC (some 6) Try.func49 #[.agg #[.int .i64 a0_0, .int .i64 a0_1, .int .i64 a0_2, .int .i64 a0_3]] ?_) | go_at_call 49); (with_reducible refine (apogeeref12_Right.calls a0_0 a0_1 a0_2 a0_3 false _ A3.out).mono ?_); rintro e wz2 ⟨rfl, hb⟩; (first | refine ⟨_, rfl, ?_⟩ | skip); replace BK416 := bA (bB BK416 hb); replace BK417 := bA (bB BK417 hb); replace HB := bA (bS hb); (try clear hb)))
 all_goals (go_ret; exact bF)
/-! ### apogeeref12_Corners: function 95 -/
def apogeeref12_Corners.f (a0_0 : Int) (a0_1 : Int) (a0_2 : Int) (a0_3 : Int) : Option ((List (S41))) := (apogeeref12_Right.f a0_0 a0_1 a0_2 a0_3).bind fun t421 => (if t421 = true then (some (([(⟨a0_0, a0_1⟩ : S41), (⟨a0_2, a0_1⟩ : S41), (⟨a0_2, a0_3⟩ : S41), (⟨a0_0, a0_3⟩ : S41)] : List (S41)))) else (some ([] : List (S41))))
set_option maxHeartbeats 8000000 in
set_option maxRecDepth 100000 in
theorem apogeeref12_Corners.calls (a0_0 : Int) (a0_1 : Int) (a0_2 : Int) (a0_3 : Int) (r : List (S41)) (w : World) (h : apogeeref12_Corners.f a0_0 a0_1 a0_2 a0_3 = some r) :
  Calls Try.prog 95 #[.agg #[.int .i64 a0_0, .int .i64 a0_1, .int .i64 a0_2, .int .i64 a0_3]] w fun e w' => ∃ v0_ : Value, e = .returned (v0_) ∧ Kd.R k41 41 w' w.heap.size (fun _ => True) v0_ r ∧ Below w.heap.size w w' := by
 have hu44 := Try.underlying44
 have hu41 := Try.underlying41
 have HB := bA (Below.refl w.heap.size w)
 have H : ((apogeeref12_Right.f a0_0 a0_1 a0_2 a0_3).bind fun t421 => (if t421 = true then (some (([(⟨a0_0, a0_1⟩ : S41), (⟨a0_2, a0_1⟩ : S41), (⟨a0_2, a0_3⟩ : S41), (⟨a0_0, a0_3⟩ : S41)] : List (S41)))) else (some ([] : List (S41))))) = some r := h
 clear h
 replace H := Option.bind_eq_some_iff.mp H
 obtain ⟨t421, A20, H⟩ := H
 have A2 := bA A20
 clear A20
 by_cases c3 : t421 = true
 subst c3
 rw [if_pos rfl] at H
 obtain ⟨y422, hy422⟩ : ∃ y_ : List (S41), y_ = (([(⟨a0_0, a0_1⟩ : S41), (⟨a0_2, a0_1⟩ : S41), (⟨a0_2, a0_3⟩ : S41), (⟨a0_0, a0_3⟩ : S41)] : List (S41))) := ⟨_, rfl⟩
 replace H : (some y422) = some r := by first | (rw [hy422]; with_reducible exact H) | (have H2_ := (Option.bind_some _ _).symm.trans H; rw [hy422]; with_reducible exact H2_) | (have H2_ := (Option.bind_some _ _).symm.trans H; with_reducible exact H2_) | with_reducible exact H | (rw [hy422]; exact H) | exact H
 have Ny422 := bA hy422
 clear hy422
 obtain rfl := Option.some.inj H
 rotate_left
 replace c3 := Bool.eq_false_iff.mpr c3
 subst c3
 rw [if_neg bn] at H
 obtain rfl := Option.some.inj H
 rotate_left
 all_goals go_enter Try.func95, Try.ntmps95
 all_goals go_wp2_with (first | ((with_reducible refine gate_dst (N := 1) rfl ?_); refine bE (N := 1) (cs := #[.int .i64 a0_0, .int .i64 a0_1, .int .i64 a0_2, .int .i64 a0_3]) (t := 44) ?_; intro gb420 hg wz0 hbox hb; have BK420 := bA (hbox); have GW420 := bA (bZ hg); have GE420 := bA (bZ hg); replace HB := bA (bS hb); clear hb hbox hg; obtain ⟨hz1, hz2, hz3, hz4, hz5, hz6, hz7, hz8⟩ := bc4 BK420) | ((first | ((with_reducible refine gate_callee (f := 49) rfl ?_); refine bC (some 4) Try.func49 #[.agg #[.int .i64 a0_0, .int .i64 a0_1, .int .i64 a0_2, .int .i64 a0_3]] ?_) | go_at_call 49); (with_reducible refine (apogeeref12_Right.calls a0_0 a0_1 a0_2 a0_3 true _ A2.out).mono ?_); rintro e wz1 ⟨rfl, hb⟩; (first | refine ⟨_, rfl, ?_⟩ | skip); replace BK420 := bA (bB BK420 hb); replace HB := bA (bS hb); (try clear hb); obtain ⟨hz9, hz10, hz11, hz12, hz5, hz6, hz7, hz8⟩ := bc4 BK420) | ((with_reducible refine gate_dst (N := 24) rfl ?_); refine Kd.R_lit k41 _ 41 ?hg (N := 24) ?hd (xs := ([(⟨a0_0, a0_1⟩ : S41), (⟨a0_2, a0_1⟩ : S41), (⟨a0_2, a0_3⟩ : S41), (⟨a0_0, a0_3⟩ : S41)] : List (S41))) (inner := [.int .i64 a0_0, .int .i64 a0_1, .int .i64 a0_2, .int .i64 a0_1, .int .i64 a0_2, .int .i64 a0_3, .int .i64 a0_0, .int .i64 a0_3]) (ok := fun _ => True) (okp := fun _ => True) ?hr ?hp (fun _ hk => hk) trivial (Below.refl _ _) (Nat.le_refl _) (by simp) ?_; (case hd => rfl); (case hg => rfl); (case hr => first | (go_simp; done) | (go_simp; rfl)); (case hp => exact (Reps.c2 (show Kd.M k41 _ _ _ (⟨a0_0, a0_1⟩ : S41) [.int .i64 a0_0, .int .i64 a0_1] from (k41_mkM _ _ _ (⟨a0_0, a0_1⟩ : S41) )) (Reps.c2 (show Kd.M k41 _ _ _ (⟨a0_2, a0_1⟩ : S41) [.int .i64 a0_2, .int .i64 a0_1] from (k41_mkM _ _ _ (⟨a0_2, a0_1⟩ : S41) )) (Reps.c2 (show Kd.M k41 _ _ _ (⟨a0_2, a0_3⟩ : S41) [.int .i64 a0_2, .int .i64 a0_3] from (k41_mkM _ _ _ (⟨a0_2, a0_3⟩ : S41) )) (Reps.c2 (show Kd.M k41 _ _ _ (⟨a0_0, a0_3⟩ : S41) [.int .i64 a0_0, .int .i64 a0_3] from (k41_mkM _ _ _ (⟨a0_0, a0_3⟩ : S41) )) (Reps.none _ _)))))); intro v423 wz2 ho9 hb hg_ hnew_; clear hg_ hnew_; (first | rw [← Ny422.out] at ho9 | (simp only [Int.reduceToNat] at ho9; rw [← Ny422.out] at ho9)); have HO424 := bA (Kd.R_lower ho9 bY); replace BK420 := bA (bB BK420 hb); replace HB := bA (bS hb); clear hb ho9) | ((first | ((with_reducible refine gate_callee (f := 49) rfl ?_); refine bC (some 4) Try.func49 #[.agg #[.int .i64 a0_0, .int .i64 a0_1, .int .i64 a0_2, .int .i64 a0_3]] ?_) | go_at_call 49); (with_reducible refine (apogeeref12_Right.calls a0_0 a0_1 a0_2 a0_3 false _ A2.out).mono ?_); rintro e wz1 ⟨rfl, hb⟩; (first | refine ⟨_, rfl, ?_⟩ | skip); replace BK420 := bA (bB BK420 hb); replace HB := bA (bS hb); (try clear hb)))
 ·go_ret
  exact ⟨_, by first | rfl | (simp [errW_none, errW_some] <;> rfl) | (simp [*, errW_none, errW_some] <;> rfl), bRr HO424, by repeat (first | (with_reducible first | exact HB.out | apply below_alloc | apply pw_below_drewN | apply below_drew1 | refine below_set ?_ GE420.out) | exact HB.out)⟩
 go_ret
 exact ⟨_, by first | rfl | (simp [errW_none, errW_some] <;> rfl) | (simp [*, errW_none, errW_some] <;> rfl), by first | exact Kd.R_nil _ _ _ _ _ | exact Kd.N_nil _ _ _ _ _ | exact Kd.V_nil _ _ _ _ _ | exact Kd.Q_nil _ _ _ _ _ | exact Kd.S_nil _ _ _ _ _, by repeat (first | (with_reducible first | exact HB.out | apply below_alloc | apply pw_below_drewN | apply below_drew1 | refine below_set ?_ GE420.out) | exact HB.out)⟩
/-! ### apogeeref10_short: function 105 -/
def apogeeref10_short.f (a0 : Int) : Option (Bool) := if a0 > (-2147483648) then (some (decide (a0 < 2147483648))) else (some false)
set_option maxHeartbeats 8000000 in
set_option maxRecDepth 100000 in
theorem apogeeref10_short.calls (a0 : Int) (r : Bool) (w : World) (h : apogeeref10_short.f a0 = some r) :
  Calls Try.prog 105 #[.int .i64 a0] w fun e w' => e = .returned (.bool r) ∧ Drawn0 w w' := by
 have H : (if a0 > (-2147483648) then (some (decide (a0 < 2147483648))) else (some false)) = some r := h
 clear h
 by_cases c2 : a0 > (-2147483648)
 rw [if_pos c2] at H
 have c2b0 : decide ((-2147483648) < a0) = true := decide_eq_true c2
 clear c2
 obtain rfl := Option.some.inj H
 rotate_left
 rw [if_neg c2] at H
 have c2b0 : decide ((-2147483648) < a0) = false := decide_eq_false c2
 clear c2
 obtain rfl := Option.some.inj H
 rotate_left
 all_goals go_enter Try.func105, Try.ntmps105
 all_goals go_wp2
 all_goals (go_ret; exact bD)
/-! ### apogeeref01_Of: function 110 -/
def apogeeref01_Of.f (a0 : Int) : Option (Int × Int) := if a0 < 0 then (some ((-1), IntKind.u64.wrap (a0))) else (some (0, IntKind.u64.wrap (a0)))
set_option maxHeartbeats 8000000 in
set_option maxRecDepth 100000 in
theorem apogeeref01_Of.calls (a0 : Int) (r1 : Int) (r2 : Int) (w : World) (h : apogeeref01_Of.f a0 = some (r1, r2)) :
  Calls Try.prog 110 #[.int .i64 a0] w fun e w' => e = .returned (.agg #[.int .i64 r1, .int .u64 r2]) ∧ Below w.heap.size w w' := by
 have hu90 := Try.underlying90
 have HB := bA (Below.refl w.heap.size w)
 have H : (if a0 < 0 then (some ((-1), IntKind.u64.wrap (a0))) else (some (0, IntKind.u64.wrap (a0)))) = some (r1, r2) := h
 clear h
 by_cases c2 : a0 < 0
 rw [if_pos c2] at H
 have c2b0 : decide (a0 < 0) = true := decide_eq_true c2
 clear c2
 simp only [Option.some.injEq, Prod.mk.injEq] at H
 obtain ⟨rfl, rfl⟩ := H
 rotate_left
 rw [if_neg c2] at H
 have c2b0 : decide (a0 < 0) = false := decide_eq_false c2
 clear c2
 simp only [Option.some.injEq, Prod.mk.injEq] at H
 obtain ⟨rfl, rfl⟩ := H
 rotate_left
 all_goals go_enter Try.func110, Try.ntmps110
 all_goals go_wp2_with (first | ((with_reducible refine gate_dst (N := 2) rfl ?_); refine bE (N := 2) (cs := #[.int .i64 0, .int .u64 0]) (t := 90) ?_; intro gb425 hg wz0 hbox hb; have BK425 := bA (hbox); have GW425 := bA (bZ hg); have GE425 := bA (bZ hg); replace HB := bA (bS hb); clear hb hbox hg; obtain ⟨hz1, hz2, hz3, hz4⟩ := bc2 BK425))
 ·refine bodyPost_ret (results_cell_row rfl _ _ gb425 90 #[.int .i64 (-1), .int .u64 (IntKind.u64.wrap (a0))] (0, 0) _ rfl (by (with_reducible repeat (first | refine blk_drewN ?_ _ | refine blk_drew ?_ | refine blk_alloc ?_ _)); refine blk_put (cs := #[.int .i64 (-1), .int .u64 0]) ?_ 1 _ rfl; (with_reducible repeat (first | refine blk_drewN ?_ _ | refine blk_drew ?_ | refine blk_alloc ?_ _)); refine blk_put (cs := #[.int .i64 0, .int .u64 0]) ?_ 0 _ rfl; (with_reducible repeat (first | refine blk_drewN ?_ _ | refine blk_drew ?_ | refine blk_alloc ?_ _)); exact BK425.out) Try.underlying90 rfl (by kernel_rfl)) rfl ?_
  exact bF
 refine bodyPost_ret (results_cell_row rfl _ _ gb425 90 #[.int .i64 0, .int .u64 (IntKind.u64.wrap (a0))] (0, 0) _ rfl (by (with_reducible repeat (first | refine blk_drewN ?_ _ | refine blk_drew ?_ | refine blk_alloc ?_ _)); refine blk_put (cs := #[.int .i64 0, .int .u64 0]) ?_ 1 _ rfl; (with_reducible repeat (first | refine blk_drewN ?_ _ | refine blk_drew ?_ | refine blk_alloc ?_ _)); refine blk_put (cs := #[.int .i64 0, .int .u64 0]) ?_ 0 _ rfl; (with_reducible repeat (first | refine blk_drewN ?_ _ | refine blk_drew ?_ | refine blk_alloc ?_ _)); exact BK425.out) Try.underlying90 rfl (by kernel_rfl)) rfl ?_
 exact bF
/-! ### apogeeref01_bits: function 118 -/
mutual
def apogeeref01_bits.l0 : Nat → List Int → Int → Int → Int → Option (List Int)
 | 0, _, _, _, _ => none
 | k + 1, x3, x4, x427000, x427001 => if x4 < 64 then (if 0 ≤ x4 then (if x3.length < 17592186044416 then (apogeeref01_bits.l0 k (x3 ++ [wrap64 (Go.bits .and .u64 (shr .u64 x427001 x4) 1)]) (wrap64 (x4 + 1)) x427000 x427001) else (none)) else (none)) else (apogeeref01_bits.l1 k x3 0 x427000 x427001)
def apogeeref01_bits.l1 : Nat → List Int → Int → Int → Int → Option (List Int)
 | 0, _, _, _, _ => none
 | k + 1, x3, x5, x427000, x427001 => if x5 < 64 then (if 0 ≤ x5 then (if x3.length < 17592186044416 then (apogeeref01_bits.l1 k (x3 ++ [wrap64 (Go.bits .and .u64 (shr .u64 (IntKind.u64.wrap (x427000)) x5) 1)]) (wrap64 (x5 + 1)) x427000 x427001) else (none)) else (none)) else (some x3)
end
def apogeeref01_bits.f (k : Nat) (a0_0 : Int) (a0_1 : Int) : Option (List Int) := apogeeref01_bits.l0 k ([] : List Int) 0 a0_0 a0_1
theorem apogeeref01_bits.mono_l : ∀ k, (∀ y0 y1 y2 y3, LeO (apogeeref01_bits.l0 k y0 y1 y2 y3) (apogeeref01_bits.l0 (k + 1) y0 y1 y2 y3)) ∧ (∀ y0 y1 y2 y3, LeO (apogeeref01_bits.l1 k y0 y1 y2 y3) (apogeeref01_bits.l1 (k + 1) y0 y1 y2 y3))
 | 0 => ⟨fun _ _ _ _ r h => by simp [apogeeref01_bits.l0] at h, fun _ _ _ _ r h => by simp [apogeeref01_bits.l1] at h⟩
 | k + 1 => by
  obtain ⟨ih0, ih1⟩ := apogeeref01_bits.mono_l k
  refine ⟨?_, ?_⟩
  ·intro y0 y1 y2 y3
   unfold apogeeref01_bits.l0
   repeat' first
   | (with_reducible exact ih0 _ _ _ _)
   | (with_reducible exact ih1 _ _ _ _)
   | (with_reducible exact LeO.refl _)
   | (with_reducible exact LeO.none _)
   | (with_reducible refine LeO.ite ?_ ?_)
   | (with_reducible refine LeO.bind ?_ (fun _ => ?_))
   | exact ih0 _ _ _ _
   | exact ih1 _ _ _ _
   | exact LeO.none _
   | refine LeO.ite ?_ ?_
   | refine LeO.bind ?_ (fun _ => ?_)
  ·intro y0 y1 y2 y3
   unfold apogeeref01_bits.l1
   repeat' first
   | (with_reducible exact ih0 _ _ _ _)
   | (with_reducible exact ih1 _ _ _ _)
   | (with_reducible exact LeO.refl _)
   | (with_reducible exact LeO.none _)
   | (with_reducible refine LeO.ite ?_ ?_)
   | (with_reducible refine LeO.bind ?_ (fun _ => ?_))
   | exact ih0 _ _ _ _
   | exact ih1 _ _ _ _
   | exact LeO.none _
   | refine LeO.ite ?_ ?_
   | refine LeO.bind ?_ (fun _ => ?_)
theorem apogeeref01_bits.mono : ∀ a0 a1 k, LeO (apogeeref01_bits.f k a0 a1) (apogeeref01_bits.f (k + 1) a0 a1) := by
 intro a0 a1 k
 obtain ⟨ih0, ih1⟩ := apogeeref01_bits.mono_l k
 unfold apogeeref01_bits.f
 repeat' first
   | (with_reducible exact ih0 _ _ _ _)
   | (with_reducible exact ih1 _ _ _ _)
   | (with_reducible exact LeO.refl _)
   | (with_reducible exact LeO.none _)
   | (with_reducible refine LeO.ite ?_ ?_)
   | (with_reducible refine LeO.bind ?_ (fun _ => ?_))
   | exact ih0 _ _ _ _
   | exact ih1 _ _ _ _
   | exact LeO.none _
   | refine LeO.ite ?_ ?_
   | refine LeO.bind ?_ (fun _ => ?_)
set_option maxHeartbeats 8000000 in
set_option maxRecDepth 100000 in
theorem apogeeref01_bits.calls (k : Nat) (a0_0 : Int) (a0_1 : Int) (r : List Int) (w : World) (h : apogeeref01_bits.f k a0_0 a0_1 = some r) :
  Calls Try.prog 118 #[.agg #[.int .i64 a0_0, .int .u64 a0_1]] w fun e w' => ∃ v0_ : Value, e = .returned (v0_) ∧ Kd.R (Kd.int .i64) 3 w' w.heap.size (fun _ => True) v0_ r ∧ Below w.heap.size w w' := by
 have hu90 := Try.underlying90
 have HB := bA (Below.refl w.heap.size w)
 have H : (apogeeref01_bits.l0 k ([] : List Int) 0 a0_0 a0_1) = some r := h
 clear h
 have H' := bA H
 clear H
 go_enter Try.func118, Try.ntmps118
 go_wp2_with (first | ((with_reducible refine gate_dst (N := 1) rfl ?_); refine bE (N := 1) (cs := #[.int .i64 a0_0, .int .u64 a0_1]) (t := 90) ?_; intro gb426 hg w2 hbox hb; have BK426 := bA (hbox); have GW426 := bA (bZ hg); have GE426 := bA (bZ hg); replace HB := bA (bS hb); clear hb hbox hg))
 go_loopg [3, 4] k (fun kq v3 v4 w' => ∃ (x3_1 : List Int) (x4_1 : Int), v4 = .int .i64 x4_1 ∧ Aside0 (apogeeref01_bits.l0 kq x3_1 x4_1 a0_0 a0_1 = some r) ∧ Aside0 (kq ≤ k) ∧ Aside0 (Kd.R (Kd.int .i64) 3 w' w.heap.size (fun _ => True) v3 x3_1) ∧ Aside0 (w'.heap[gb426]? = some (.cells #[.int .i64 a0_0, .int .u64 a0_1] 90 (0, 0))) ∧ Aside0 (Below w.heap.size w w'))
 case atStart => exact ⟨(([] : List Int)), (0), bs, H', ⟨Nat.le_refl _⟩, ⟨by first | exact Kd.R_nil _ _ _ _ _ | exact Kd.N_nil _ _ _ _ _ | exact Kd.V_nil _ _ _ _ _ | exact Kd.Q_nil _ _ _ _ _ | exact Kd.S_nil _ _ _ _ _⟩, ⟨by (with_reducible repeat (first | refine blk_drewN ?_ _ | refine blk_drew ?_ | refine blk_alloc ?_ _)); exact BK426.out⟩, ⟨bX⟩⟩
 clear H'
 try clear c1
 try clear p2
 obtain ⟨x3_1, x4_1, rfl, HA, HK1, HO_3, BK426, HB⟩ := hrel
 cases gk with
 | zero => exact absurd HA.out (by simp [apogeeref01_bits.l0])
 | succ k1 =>
  have H := HA.out
  clear HA
  simp only [apogeeref01_bits.l0] at H
  by_cases c3 : x4_1 < 64
  ·rw [if_pos c3] at H
   have c3b0 : decide (x4_1 < 64) = true := decide_eq_true c3
   clear c3
   by_cases c4 : 0 ≤ x4_1
   rotate_left
   ·rw [if_neg c4] at H
    exact absurd H (by simp)
   rw [if_pos c4] at H
   have c4b0 := eq_true c4
   have c4b1 : decide (0 ≤ x4_1) = true := decide_eq_true c4
   clear c4
   obtain ⟨ji5, hji5⟩ : ∃ j_ : Int, (shr .u64 a0_1 x4_1) = j_ := ⟨_, rfl⟩
   replace H : (if x3_1.length < 17592186044416 then (apogeeref01_bits.l0 k1 (x3_1 ++ [wrap64 (Go.bits .and .u64 (ji5) 1)]) (wrap64 (x4_1 + 1)) a0_0 a0_1) else (none)) = some r := by first | (rw [hji5] at H; exact H) | (simp only [hji5] at H ⊢; exact H)
   have hji5_ : (a0_1 / 2 ^ min x4_1.toNat 64) = ji5 := hji5
   have hji5z : x4_1 ≤ 64 → (a0_1 / 2 ^ x4_1.toNat) = ji5 := shr_small hji5
   by_cases c6 : x3_1.length < 17592186044416
   rotate_left
   ·rw [if_neg c6] at H
    exact absurd H (by simp)
   rw [if_pos c6] at H
   have LMc6 := bA c6
   clear c6
   obtain ⟨y427, hy427⟩ : ∃ y_ : List Int, y_ = (x3_1 ++ [wrap64 (Go.bits .and .u64 (ji5) 1)]) := ⟨_, rfl⟩
   replace H : (apogeeref01_bits.l0 k1 y427 (wrap64 (x4_1 + 1)) a0_0 a0_1) = some r := by first | (rw [hy427]; with_reducible exact H) | (have H2_ := (Option.bind_some _ _).symm.trans H; rw [hy427]; with_reducible exact H2_) | (have H2_ := (Option.bind_some _ _).symm.trans H; with_reducible exact H2_) | with_reducible exact H | (rw [hy427]; exact H) | exact H
   have Ny427 := bA hy427
   clear hy427
   have H' := bA H
   clear H
   obtain ⟨hcz7_0, hcz7_1, hfz7_0, hfz7_1⟩ := bc2 BK426
   go_wp2_with (first | ((with_reducible refine gate_builtin (b := .append) (xs := #[.tmp 10, .tmp 17]) rfl ?_); at_builtin; refine Kd.R_append (Kd.int .i64) (w0 := w) w.heap.size rfl (.tmp 10) (.tmp 17) 122 3 (.int .i64 0) 8 rfl Try.underlying122 info3 rfl (by decide) (by omega) u3 x3_1 (wrap64 (Go.bits .and .u64 (ji5) 1)) [.int .i64 (wrap64 (Go.bits .and .u64 (ji5) 1))] (fun _ => True) (fun _ => False) rfl rfl ?aP (fun _ hk => hk.elim) ?aF ?aO ?aB ?aS ?aL ?_; (case aP => exact rfl); (case aB => exact bX); (case aF => exact (fun _ _ => trivial)); (case aO => exact (bRr HO_3)); (case aS => exact bY); (case aL => have := LMc6.out; omega); intro v428 w8 ho hb hg hat; rw [← Ny427.out] at ho; have HO429 := bA (ho); replace BK426 := bA (blk_grown (g := gb426) (o := .cells #[.int .i64 a0_0, .int .u64 a0_1] 90 (0, 0)) (bP BK426) hg (Kd.R_ne HO_3.out BK426.out (by decide))); replace HB := bA (hb); clear HO_3; clear ho hb hg hat))
   go_roundg k1
   case measure => have := HK1.out; omega
   case rel => exact ⟨(y427), (wrap64 (x4_1 + 1)), bs, H', ⟨by have := HK1.out; omega⟩, ⟨bRr HO429⟩, ⟨by (with_reducible repeat (first | refine blk_drewN ?_ _ | refine blk_drew ?_ | refine blk_alloc ?_ _)); exact BK426.out⟩, ⟨bX⟩⟩
  rw [if_neg c3] at H
  have c3b0 : decide (x4_1 < 64) = false := decide_eq_false c3
  clear c3
  have H' := bA H
  clear H
  go_wp2
  go_loopg [3, 5] k1 (fun kq v3 v5 w' => ∃ (x3_2 : List Int) (x5_2 : Int), v5 = .int .i64 x5_2 ∧ Aside0 (apogeeref01_bits.l1 kq x3_2 x5_2 a0_0 a0_1 = some r) ∧ Aside0 (kq ≤ k1) ∧ Aside0 (Kd.R (Kd.int .i64) 3 w' w.heap.size (fun _ => True) v3 x3_2) ∧ Aside0 (w'.heap[gb426]? = some (.cells #[.int .i64 a0_0, .int .u64 a0_1] 90 (0, 0))) ∧ Aside0 (Below w.heap.size w w'))
  case atStart => exact ⟨(x3_1), (0), bs, H', ⟨Nat.le_refl _⟩, ⟨bRr HO_3⟩, ⟨by (with_reducible repeat (first | refine blk_drewN ?_ _ | refine blk_drew ?_ | refine blk_alloc ?_ _)); exact BK426.out⟩, ⟨bX⟩⟩
  clear H'
  try clear c1
  try clear p2
  try clear c3
  try clear c3b0
  try clear c4
  try clear c4b0
  try clear c4b1
  try clear c6
  try clear p6
  try clear hcz7_0
  try clear hcz7_1
  try clear hfz7_0
  try clear hfz7_1
  try clear p2
  obtain ⟨x3_2, x5_2, rfl, HA, HK2, HO_3, BK426, HB⟩ := hrel
  cases gk with
  | zero => exact absurd HA.out (by simp [apogeeref01_bits.l1])
  | succ k2 =>
   have H := HA.out
   clear HA
   simp only [apogeeref01_bits.l1] at H
   by_cases c9 : x5_2 < 64
   rw [if_pos c9] at H
   have c9b0 : decide (x5_2 < 64) = true := decide_eq_true c9
   clear c9
   by_cases c10 : 0 ≤ x5_2
   rw [if_pos c10] at H
   have c10b0 := eq_true c10
   have c10b1 : decide (0 ≤ x5_2) = true := decide_eq_true c10
   clear c10
   obtain ⟨ji11, hji11⟩ : ∃ j_ : Int, (shr .u64 (IntKind.u64.wrap (a0_0)) x5_2) = j_ := ⟨_, rfl⟩
   replace H : (if x3_2.length < 17592186044416 then (apogeeref01_bits.l1 k2 (x3_2 ++ [wrap64 (Go.bits .and .u64 (ji11) 1)]) (wrap64 (x5_2 + 1)) a0_0 a0_1) else (none)) = some r := by first | (rw [hji11] at H; exact H) | (simp only [hji11] at H ⊢; exact H)
   have hji11_ : ((IntKind.u64.wrap (a0_0)) / 2 ^ min x5_2.toNat 64) = ji11 := hji11
   have hji11z : x5_2 ≤ 64 → ((IntKind.u64.wrap (a0_0)) / 2 ^ x5_2.toNat) = ji11 := shr_small hji11
   by_cases c12 : x3_2.length < 17592186044416
   rw [if_pos c12] at H
   have LMc12 := bA c12
   clear c12
   obtain ⟨y430, hy430⟩ : ∃ y_ : List Int, y_ = (x3_2 ++ [wrap64 (Go.bits .and .u64 (ji11) 1)]) := ⟨_, rfl⟩
   replace H : (apogeeref01_bits.l1 k2 y430 (wrap64 (x5_2 + 1)) a0_0 a0_1) = some r := by first | (rw [hy430]; with_reducible exact H) | (have H2_ := (Option.bind_some _ _).symm.trans H; rw [hy430]; with_reducible exact H2_) | (have H2_ := (Option.bind_some _ _).symm.trans H; with_reducible exact H2_) | with_reducible exact H | (rw [hy430]; exact H) | exact H
   have Ny430 := bA hy430
   clear hy430
   have H' := bA H
   clear H
   obtain ⟨hcz13_0, hcz13_1, hfz13_0, hfz13_1⟩ := bc2 BK426
   rotate_left
   rw [if_neg c12] at H
   exact absurd H (by simp)
   rw [if_neg c10] at H
   exact absurd H (by simp)
   rw [if_neg c9] at H
   have c9b0 : decide (x5_2 < 64) = false := decide_eq_false c9
   clear c9
   obtain rfl := Option.some.inj H
   rotate_left
   all_goals go_wp2_with (first | ((with_reducible refine gate_builtin (b := .append) (xs := #[.tmp 23, .tmp 31]) rfl ?_); at_builtin; refine Kd.R_append (Kd.int .i64) (w0 := w) w.heap.size rfl (.tmp 23) (.tmp 31) 122 3 (.int .i64 0) 8 rfl Try.underlying122 info3 rfl (by decide) (by omega) u3 x3_2 (wrap64 (Go.bits .and .u64 (ji11) 1)) [.int .i64 (wrap64 (Go.bits .and .u64 (ji11) 1))] (fun _ => True) (fun _ => False) rfl rfl ?aP (fun _ hk => hk.elim) ?aF ?aO ?aB ?aS ?aL ?_; (case aP => exact rfl); (case aB => exact bX); (case aF => exact (fun _ _ => trivial)); (case aO => exact (bRr HO_3)); (case aS => exact bY); (case aL => have := LMc12.out; omega); intro v431 wz0 ho hb hg hat; rw [← Ny430.out] at ho; have HO432 := bA (ho); replace BK426 := bA (blk_grown (g := gb426) (o := .cells #[.int .i64 a0_0, .int .u64 a0_1] 90 (0, 0)) (bP BK426) hg (Kd.R_ne HO_3.out BK426.out (by decide))); replace HB := bA (hb); clear HO_3; clear ho hb hg hat))
   ·go_roundg k2
    case measure => have := HK1.out; have := HK2.out; omega
    case rel => exact ⟨(y430), (wrap64 (x5_2 + 1)), bs, H', ⟨by have := HK1.out; have := HK2.out; omega⟩, ⟨bRr HO432⟩, ⟨by (with_reducible repeat (first | refine blk_drewN ?_ _ | refine blk_drew ?_ | refine blk_alloc ?_ _)); exact BK426.out⟩, ⟨bX⟩⟩
   go_ret
   exact ⟨_, by first | rfl | (simp [errW_none, errW_some] <;> rfl) | (simp [*, errW_none, errW_some] <;> rfl), bRr HO_3, by repeat (first | (with_reducible first | exact HB.out | apply below_alloc | apply pw_below_drewN | apply below_drew1 | refine below_set ?_ GE426.out) | exact HB.out)⟩
end Go.Proofs.Ytjmibjmlihmglaa.G
