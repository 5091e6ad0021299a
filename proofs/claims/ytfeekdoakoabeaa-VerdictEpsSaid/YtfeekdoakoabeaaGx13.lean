-- Written by a program of this session out of the translation; Lean checks it.
import Derived.Test.YtfeekdoakoabeaaGx0
import Derived.Test.YtfeekdoakoabeaaGx6
import Derived.Test.YtfeekdoakoabeaaGx10
import Derived.Test.YtfeekdoakoabeaaGx12
namespace Go.Proofs.Ytfeekdoakoabeaa.G
open Go.RowKit Go.Proofs.YtfeekdoakoabeaaW.PrintWords Go.Proofs.YtfeekdoakoabeaaW.PrintLast Go.Proofs.YtfeekdoakoabeaaW.PrintMore
attribute [local go_sem] max2_int min2_int max_two min_two max_three min_three max_four min_four   -- for this text's walks alone
set_option linter.unusedVariables false
set_option linter.unusedSimpArgs false

/-! ### slices_IndexFunc_Point_F_poly_far: function 1000005 -/
def slices_IndexFunc_Point_F_poly_far.l0 : Nat → List (S28) → Int → Int → Option (Int)
 | 0, _, _, _ => none
 | k + 1, x0, x7, x8 => if x8 < x7 then (if 0 ≤ x8 then (if x8 < (x0.length : Int) then ((poly_far.f ((rd_T28 x0 x8).f0) ((rd_T28 x0 x8).f1)).bind fun t319 => (if t319 = true then (some x8) else (slices_IndexFunc_Point_F_poly_far.l0 k x0 x7 (wrap64 (x8 + 1))))) else (none)) else (none)) else (some (-1))
def slices_IndexFunc_Point_F_poly_far.f (k : Nat) (l0 : List (S28))  : Option (Int) := slices_IndexFunc_Point_F_poly_far.l0 k l0 (l0.length : Int) 0
theorem slices_IndexFunc_Point_F_poly_far.mono_l : ∀ k, (∀ y0 y1 y2, LeO (slices_IndexFunc_Point_F_poly_far.l0 k y0 y1 y2) (slices_IndexFunc_Point_F_poly_far.l0 (k + 1) y0 y1 y2))
 | 0 => fun _ _ _ r h => by simp [slices_IndexFunc_Point_F_poly_far.l0] at h
 | k + 1 => by
  have ih0 := slices_IndexFunc_Point_F_poly_far.mono_l k
  ·intro y0 y1 y2
   unfold slices_IndexFunc_Point_F_poly_far.l0
   exact bMo
theorem slices_IndexFunc_Point_F_poly_far.mono : ∀ a0 k, LeO (slices_IndexFunc_Point_F_poly_far.f k a0) (slices_IndexFunc_Point_F_poly_far.f (k + 1) a0) := by
 intro a0 k
 have ih0 := slices_IndexFunc_Point_F_poly_far.mono_l k
 unfold slices_IndexFunc_Point_F_poly_far.f
 exact bMo
set_option maxHeartbeats 8000000 in
set_option maxRecDepth 100000 in
theorem slices_IndexFunc_Point_F_poly_far.calls (k : Nat) (A0 : Option Addr) (c0 : Nat) (l0 : List (S28))  (r : Int) (w : World) (hr0 : Kd.C k28 w A0 l0.length l0) (hc0 : l0.length ≤ c0) (h : slices_IndexFunc_Point_F_poly_far.f k l0 = some r) :
  Calls Try.prog 82 #[.slice A0 l0.length c0, .func (.func 71) #[] #[]] w fun e w' => e = .returned (.int .i64 r) ∧ Below w.heap.size w w' := by
 have hu28 := Try.underlying28
 have HR0 := bA hr0
 have HC0 := bA hc0
 clear hr0 hc0
 have HB := bA (Below.refl w.heap.size w)
 have H : (slices_IndexFunc_Point_F_poly_far.l0 k l0 (l0.length : Int) 0) = some r := h
 clear h
 have H' := bA H
 clear H
 go_enter Try.func82, Try.ntmps82
 go_wp2
 go_loopg [8] k (fun kq v8 w' => ∃ (x8_1 : Int), v8 = .int .i64 x8_1 ∧ Aside0 (slices_IndexFunc_Point_F_poly_far.l0 kq l0 (l0.length : Int) x8_1 = some r) ∧ Aside0 (kq ≤ k) ∧ Aside0 (Below w.heap.size w w'))
 case atStart => exact ⟨(0), bs, H', ⟨Nat.le_refl _⟩, ⟨bX⟩⟩
 clear H'
 try clear p2
 obtain ⟨x8_1, rfl, HA, HK1, HB⟩ := hrel
 cases gk with
 | zero => exact absurd HA.out (by simp [slices_IndexFunc_Point_F_poly_far.l0])
 | succ k1 =>
  have H := HA.out
  clear HA
  simp only [slices_IndexFunc_Point_F_poly_far.l0] at H
  by_cases c3 : x8_1 < (l0.length : Int)
  rw [if_pos c3] at H
  have c3b0 : decide (x8_1 < (l0.length : Int)) = true := decide_eq_true c3
  clear c3
  by_cases c4 : 0 ≤ x8_1
  rw [if_pos c4] at H
  have c4b0 : decide (0 ≤ x8_1) = true := decide_eq_true c4
  clear c4
  by_cases c5 : x8_1 < (l0.length : Int)
  rw [if_pos c5] at H
  have c5b0 : decide (x8_1 < (l0.length : Int)) = true := decide_eq_true c5
  clear c5
  replace H := Option.bind_eq_some_iff.mp H
  obtain ⟨t319, A60, H⟩ := H
  have A6 := bA A60
  clear A60
  by_cases c7 : t319 = true
  subst c7
  rw [if_pos rfl] at H
  obtain rfl := Option.some.inj H
  have p318 : 0 ≤ (x8_1 : Int) := bo
  have q318 : x8_1 < (l0.length : Int) := bo
  obtain ⟨ad318, e318, hx318_0, hx318_1⟩ := at_T28 HR0.out x8_1 p318 q318
  cases e318
  replace hx318_0 := bK hx318_0
  replace hx318_1 := bK hx318_1
  replace p318 := eq_true p318
  replace q318 := eq_true q318
  rotate_left
  replace c7 := Bool.eq_false_iff.mpr c7
  subst c7
  rw [if_neg bn] at H
  have H' := bA H
  clear H
  have p318 : 0 ≤ (x8_1 : Int) := bo
  have q318 : x8_1 < (l0.length : Int) := bo
  obtain ⟨ad318, e318, hx318_0, hx318_1⟩ := at_T28 HR0.out x8_1 p318 q318
  cases e318
  replace hx318_0 := bK hx318_0
  replace hx318_1 := bK hx318_1
  replace p318 := eq_true p318
  replace q318 := eq_true q318
  rotate_left
  rw [if_neg c5] at H
  exact absurd H (by simp)
  rw [if_neg c4] at H
  exact absurd H (by simp)
  rw [if_neg c3] at H
  have c3b0 : decide (x8_1 < (l0.length : Int)) = false := decide_eq_false c3
  clear c3
  obtain rfl := Option.some.inj H
  rotate_left
  all_goals go_wp2_with (first | (go_at_call 71; (with_reducible refine (poly_far.calls ((rd_T28 l0 x8_1).f0) ((rd_T28 l0 x8_1).f1) true _ A6.out).mono ?_); rintro e wz0 ⟨rfl, hb⟩; replace HB := bA (bS hb); (try clear hb)) | (go_at_call 71; (with_reducible refine (poly_far.calls ((rd_T28 l0 x8_1).f0) ((rd_T28 l0 x8_1).f1) false _ A6.out).mono ?_); rintro e wz0 ⟨rfl, hb⟩; replace HB := bA (bS hb); (try clear hb)))
  ·go_ret
   exact bF
  ·go_roundg k1
   case measure => have := HK1.out; omega
   case rel => exact ⟨(wrap64 (x8_1 + 1)), bs, H', ⟨by have := HK1.out; omega⟩, ⟨bX⟩⟩
  go_ret
  exact bF
/-! ### slices_ContainsFunc_Point_F_poly_far: function 1000000 -/
def slices_ContainsFunc_Point_F_poly_far.f (k : Nat) (l0 : List (S28))  : Option (Bool) := (slices_IndexFunc_Point_F_poly_far.f k l0).bind fun t320 => (some (decide (t320 ≥ 0)))
theorem slices_ContainsFunc_Point_F_poly_far.mono : ∀ a0 k, LeO (slices_ContainsFunc_Point_F_poly_far.f k a0) (slices_ContainsFunc_Point_F_poly_far.f (k + 1) a0) := by
 intro a0 k
 unfold slices_ContainsFunc_Point_F_poly_far.f
 have m0_ := @slices_IndexFunc_Point_F_poly_far.mono
 exact bMo
set_option maxHeartbeats 8000000 in
set_option maxRecDepth 100000 in
theorem slices_ContainsFunc_Point_F_poly_far.calls (k : Nat) (A0 : Option Addr) (c0 : Nat) (l0 : List (S28))  (r : Bool) (w : World) (hr0 : Kd.C k28 w A0 l0.length l0) (hc0 : l0.length ≤ c0) (h : slices_ContainsFunc_Point_F_poly_far.f k l0 = some r) :
  Calls Try.prog 70 #[.slice A0 l0.length c0, .func (.func 71) #[] #[]] w fun e w' => e = .returned (.bool r) ∧ Below w.heap.size w w' := by
 have HR0 := bA hr0
 have HC0 := bA hc0
 clear hr0 hc0
 have HB := bA (Below.refl w.heap.size w)
 have H : ((slices_IndexFunc_Point_F_poly_far.f k l0).bind fun t320 => (some (decide (t320 ≥ 0)))) = some r := h
 clear h
 replace H := Option.bind_eq_some_iff.mp H
 obtain ⟨t320, A30, H⟩ := H
 have A3 := bA A30
 clear A30
 obtain rfl := Option.some.inj H
 go_enter Try.func70, Try.ntmps70
 go_wp2_with (first | ((first | ((with_reducible refine gate_callee (f := 82) rfl ?_); refine bC (some 7) Try.func82 #[.slice A0 l0.length c0, .func (.func 71) #[] #[]] ?_) | go_at_call 82); (with_reducible refine (slices_IndexFunc_Point_F_poly_far.calls k _ _ l0  t320 _ ?side1 ?side2 A3.out).mono ?_); (case side1 => repeat (first | exact HR0.out | (with_reducible refine Kd.C_alloc ?_ _) | (with_reducible refine Kd.C_drewN ?_ _) | (with_reducible refine Kd.C_drew ?_))); (case side2 => exact HC0.out); rintro e w4 ⟨rfl, hb⟩; (first | refine ⟨_, rfl, ?_⟩ | skip); replace HB := bA (bS hb); (try clear hb)))
 go_ret
 exact bF
/-! ### poly_Right: function 59 -/
def poly_Right.f (k : Nat) (l0 : List (S28)) : Option (Bool) := (poly_Simple.f k l0).bind fun t321 => (if t321 = true then ((slices_ContainsFunc_Point_F_poly_far.f k l0).bind fun t322 => (some (!t322))) else (some false))
theorem poly_Right.mono : ∀ a0 k, LeO (poly_Right.f k a0) (poly_Right.f (k + 1) a0) := by
 intro a0 k
 unfold poly_Right.f
 have m0_ := @poly_Simple.mono
 have m1_ := @slices_ContainsFunc_Point_F_poly_far.mono
 exact bMo
set_option maxHeartbeats 8000000 in
set_option maxRecDepth 100000 in
theorem poly_Right.calls (k : Nat) (A0 : Option Addr) (c0 : Nat) (l0 : List (S28)) (r : Bool) (w : World) (hr0 : Kd.C k28 w A0 l0.length l0) (hc0 : l0.length ≤ c0) (h : poly_Right.f k l0 = some r) :
  Calls Try.prog 59 #[.slice A0 l0.length c0] w fun e w' => e = .returned (.bool r) ∧ Below w.heap.size w w' := by
 have HR0 := bA hr0
 have HC0 := bA hc0
 clear hr0 hc0
 have HB := bA (Below.refl w.heap.size w)
 have H : ((poly_Simple.f k l0).bind fun t321 => (if t321 = true then ((slices_ContainsFunc_Point_F_poly_far.f k l0).bind fun t322 => (some (!t322))) else (some false))) = some r := h
 clear h
 replace H := Option.bind_eq_some_iff.mp H
 obtain ⟨t321, A20, H⟩ := H
 have A2 := bA A20
 clear A20
 by_cases c3 : t321 = true
 subst c3
 rw [if_pos rfl] at H
 replace H := Option.bind_eq_some_iff.mp H
 obtain ⟨t322, A40, H⟩ := H
 have A4 := bA A40
 clear A40
 obtain rfl := Option.some.inj H
 rotate_left
 replace c3 := Bool.eq_false_iff.mpr c3
 subst c3
 rw [if_neg bn] at H
 obtain rfl := Option.some.inj H
 rotate_left
 all_goals go_enter Try.func59, Try.ntmps59
 all_goals go_wp2_with (first | ((first | ((with_reducible refine gate_callee (f := 69) rfl ?_); refine bC (some 4) Try.func69 #[.slice A0 l0.length c0] ?_) | go_at_call 69); (with_reducible refine (poly_Simple.calls k _ _ l0 true _ ?side1 ?side2 A2.out).mono ?_); (case side1 => repeat (first | exact HR0.out | (with_reducible refine Kd.C_alloc ?_ _) | (with_reducible refine Kd.C_drewN ?_ _) | (with_reducible refine Kd.C_drew ?_))); (case side2 => exact HC0.out); rintro e wz0 ⟨rfl, hb⟩; (first | refine ⟨_, rfl, ?_⟩ | skip); replace HB := bA (bS hb); (try clear hb)) | (go_at_call 70; (with_reducible refine (slices_ContainsFunc_Point_F_poly_far.calls k _ _ l0  t322 _ ?side1 ?side2 A4.out).mono ?_); (case side1 => exact bQ HR0); (case side2 => exact HC0.out); rintro e wz1 ⟨rfl, hb⟩; replace HB := bA (bS hb); (try clear hb)) | ((first | ((with_reducible refine gate_callee (f := 69) rfl ?_); refine bC (some 4) Try.func69 #[.slice A0 l0.length c0] ?_) | go_at_call 69); (with_reducible refine (poly_Simple.calls k _ _ l0 false _ ?side1 ?side2 A2.out).mono ?_); (case side1 => repeat (first | exact HR0.out | (with_reducible refine Kd.C_alloc ?_ _) | (with_reducible refine Kd.C_drewN ?_ _) | (with_reducible refine Kd.C_drew ?_))); (case side2 => exact HC0.out); rintro e wz0 ⟨rfl, hb⟩; (first | refine ⟨_, rfl, ?_⟩ | skip); replace HB := bA (bS hb); (try clear hb)))
 all_goals (go_ret; exact bF)
/-! ### box_Corners: function 74 -/
def box_Corners.f (a0_0 : Int) (a0_1 : Int) (a0_2 : Int) (a0_3 : Int) : Option ((List (S28))) := (box_Right.f a0_0 a0_1 a0_2 a0_3).bind fun t324 => (if t324 = true then (some (([(⟨a0_0, a0_1⟩ : S28), (⟨a0_2, a0_1⟩ : S28), (⟨a0_2, a0_3⟩ : S28), (⟨a0_0, a0_3⟩ : S28)] : List (S28)))) else (some ([] : List (S28))))
set_option maxHeartbeats 8000000 in
set_option maxRecDepth 100000 in
theorem box_Corners.calls (a0_0 : Int) (a0_1 : Int) (a0_2 : Int) (a0_3 : Int) (r : List (S28)) (w : World) (h : box_Corners.f a0_0 a0_1 a0_2 a0_3 = some r) :
  Calls Try.prog 74 #[.agg #[.int .i64 a0_0, .int .i64 a0_1, .int .i64 a0_2, .int .i64 a0_3]] w fun e w' => ∃ v0_ : Value, e = .returned (v0_) ∧ Kd.R k28 28 w' w.heap.size (fun _ => True) v0_ r ∧ Below w.heap.size w w' := by
 have hu30 := Try.underlying30
 have hu28 := Try.underlying28
 have HB := bA (Below.refl w.heap.size w)
 have H : ((box_Right.f a0_0 a0_1 a0_2 a0_3).bind fun t324 => (if t324 = true then (some (([(⟨a0_0, a0_1⟩ : S28), (⟨a0_2, a0_1⟩ : S28), (⟨a0_2, a0_3⟩ : S28), (⟨a0_0, a0_3⟩ : S28)] : List (S28)))) else (some ([] : List (S28))))) = some r := h
 clear h
 replace H := Option.bind_eq_some_iff.mp H
 obtain ⟨t324, A20, H⟩ := H
 have A2 := bA A20
 clear A20
 by_cases c3 : t324 = true
 subst c3
 rw [if_pos rfl] at H
 obtain ⟨y325, hy325⟩ : ∃ y_ : List (S28), y_ = (([(⟨a0_0, a0_1⟩ : S28), (⟨a0_2, a0_1⟩ : S28), (⟨a0_2, a0_3⟩ : S28), (⟨a0_0, a0_3⟩ : S28)] : List (S28))) := ⟨_, rfl⟩
 replace H : (some y325) = some r := by first | (rw [hy325]; with_reducible exact H) | (have H2_ := (Option.bind_some _ _).symm.trans H; rw [hy325]; with_reducible exact H2_) | (have H2_ := (Option.bind_some _ _).symm.trans H; with_reducible exact H2_) | with_reducible exact H | (rw [hy325]; exact H) | exact H
 have Ny325 := bA hy325
 clear hy325
 obtain rfl := Option.some.inj H
 rotate_left
 replace c3 := Bool.eq_false_iff.mpr c3
 subst c3
 rw [if_neg bn] at H
 obtain rfl := Option.some.inj H
 rotate_left
 all_goals go_enter Try.func74, Try.ntmps74
 all_goals go_wp2_with (first | ((with_reducible refine gate_dst (N := 1) rfl ?_); refine bE (N := 1) (cs := #[.int .i64 a0_0, .int .i64 a0_1, .int .i64 a0_2, .int .i64 a0_3]) (t := 30) ?_; intro gb323 hg wz0 hbox hb; have BK323 := bA (hbox); have GW323 := bA (bZ hg); have GE323 := bA (bZ hg); replace HB := bA (bS hb); clear hb hbox hg; obtain ⟨hz1, hz2, hz3, hz4, hz5, hz6, hz7, hz8⟩ := bc4 BK323) | ((first | ((with_reducible refine gate_callee (f := 21) rfl ?_); refine bC (some 4) Try.func21 #[.agg #[.int .i64 a0_0, .int .i64 a0_1, .int .i64 a0_2, .int .i64 a0_3]] ?_) | go_at_call 21); (with_reducible refine (box_Right.calls a0_0 a0_1 a0_2 a0_3 true _ A2.out).mono ?_); rintro e wz1 ⟨rfl, hb⟩; (first | refine ⟨_, rfl, ?_⟩ | skip); replace BK323 := bA (bB BK323 hb); replace HB := bA (bS hb); (try clear hb); obtain ⟨hz9, hz10, hz11, hz12, hz5, hz6, hz7, hz8⟩ := bc4 BK323) | ((with_reducible refine gate_dst (N := 24) rfl ?_); refine Kd.R_lit k28 _ 28 ?hg (N := 24) ?hd (xs := ([(⟨a0_0, a0_1⟩ : S28), (⟨a0_2, a0_1⟩ : S28), (⟨a0_2, a0_3⟩ : S28), (⟨a0_0, a0_3⟩ : S28)] : List (S28))) (inner := [.int .i64 a0_0, .int .i64 a0_1, .int .i64 a0_2, .int .i64 a0_1, .int .i64 a0_2, .int .i64 a0_3, .int .i64 a0_0, .int .i64 a0_3]) (ok := fun _ => True) (okp := fun _ => True) ?hr ?hp (fun _ hk => hk) trivial (Below.refl _ _) (Nat.le_refl _) (by simp) ?_; (case hd => rfl); (case hg => rfl); (case hr => first | (go_simp; done) | (go_simp; rfl)); (case hp => exact (Reps.c2 (show Kd.M k28 _ _ _ (⟨a0_0, a0_1⟩ : S28) [.int .i64 a0_0, .int .i64 a0_1] from (k28_mkM _ _ _ (⟨a0_0, a0_1⟩ : S28) )) (Reps.c2 (show Kd.M k28 _ _ _ (⟨a0_2, a0_1⟩ : S28) [.int .i64 a0_2, .int .i64 a0_1] from (k28_mkM _ _ _ (⟨a0_2, a0_1⟩ : S28) )) (Reps.c2 (show Kd.M k28 _ _ _ (⟨a0_2, a0_3⟩ : S28) [.int .i64 a0_2, .int .i64 a0_3] from (k28_mkM _ _ _ (⟨a0_2, a0_3⟩ : S28) )) (Reps.c2 (show Kd.M k28 _ _ _ (⟨a0_0, a0_3⟩ : S28) [.int .i64 a0_0, .int .i64 a0_3] from (k28_mkM _ _ _ (⟨a0_0, a0_3⟩ : S28) )) (Reps.none _ _)))))); intro v326 wz2 ho9 hb hg_ hnew_; clear hg_ hnew_; (first | rw [← Ny325.out] at ho9 | (simp only [Int.reduceToNat] at ho9; rw [← Ny325.out] at ho9)); have HO327 := bA (Kd.R_lower ho9 bY); replace BK323 := bA (bB BK323 hb); replace HB := bA (bS hb); clear hb ho9) | ((first | ((with_reducible refine gate_callee (f := 21) rfl ?_); refine bC (some 4) Try.func21 #[.agg #[.int .i64 a0_0, .int .i64 a0_1, .int .i64 a0_2, .int .i64 a0_3]] ?_) | go_at_call 21); (with_reducible refine (box_Right.calls a0_0 a0_1 a0_2 a0_3 false _ A2.out).mono ?_); rintro e wz1 ⟨rfl, hb⟩; (first | refine ⟨_, rfl, ?_⟩ | skip); replace BK323 := bA (bB BK323 hb); replace HB := bA (bS hb); (try clear hb)))
 ·go_ret
  exact ⟨_, by first | rfl | (simp [errW_none, errW_some] <;> rfl) | (simp [*, errW_none, errW_some] <;> rfl), bRr HO327, by repeat (first | (with_reducible first | exact HB.out | apply below_alloc | apply pw_below_drewN | apply below_drew1 | refine below_set ?_ GE323.out) | exact HB.out)⟩
 go_ret
 exact ⟨_, by first | rfl | (simp [errW_none, errW_some] <;> rfl) | (simp [*, errW_none, errW_some] <;> rfl), by first | exact Kd.R_nil _ _ _ _ _ | exact Kd.N_nil _ _ _ _ _ | exact Kd.V_nil _ _ _ _ _ | exact Kd.Q_nil _ _ _ _ _ | exact Kd.S_nil _ _ _ _ _, by repeat (first | (with_reducible first | exact HB.out | apply below_alloc | apply pw_below_drewN | apply below_drew1 | refine below_set ?_ GE323.out) | exact HB.out)⟩
/-! ### box_Meets: function 60 -/
set_option maxHeartbeats 8000000 in
set_option maxRecDepth 100000 in
theorem box_Meets_1.calls (k gp gq : Nat) (p0 p1 q0 q1 c0 c1 r : Int) (w : World) (hp : w.heap[gp]? = some (.cells #[.int .i64 p0, .int .i64 p1] 28 (0, 0))) (hq : w.heap[gq]? = some (.cells #[.int .i64 q0, .int .i64 q1] 28 (0, 0))) (h : point_Turn.f k p0 p1 q0 q1 c0 c1 = some r) :
  Calls Try.prog 72 #[.agg #[.int .i64 c0, .int .i64 c1], .pointer (some ⟨gp, 0, none⟩), .pointer (some ⟨gq, 0, none⟩)] w fun e w' => e = .returned (.int .i64 r) ∧ Below w.heap.size w w' := by
 have hu41 := Try.underlying28
 have HB := bA (Below.refl w.heap.size w)
 have BKp := bA hp
 have BKq := bA hq
 clear hp hq
 have A2 := bA h
 clear h
 go_enter Try.func72, Try.ntmps72
 go_wp2_with (first | ((with_reducible refine gate_dst (N := 3) rfl ?_); refine bE (N := 3) (cs := #[.int .i64 c0, .int .i64 c1]) (t := 28) ?_; intro gb140 hg w3 hbox hb; have BK140 := bA (hbox); replace BKp := bA (bB BKp hb); replace BKq := bA (bB BKq hb); replace HB := bA (bS hb); clear hb hbox hg; obtain ⟨hcz4_0, hcz4_1, hfz4_0, hfz4_1⟩ := bc2 BK140; obtain ⟨hp4_0, hp4_1, hpf4_0, hpf4_1⟩ := bc2 BKp; obtain ⟨hq4_0, hq4_1, hqf4_0, hqf4_1⟩ := bc2 BKq) | ((first | ((with_reducible refine gate_callee (f := 73) rfl ?_); refine bC (some 8) Try.func73 #[.agg #[.int .i64 p0, .int .i64 p1], .agg #[.int .i64 q0, .int .i64 q1], .agg #[.int .i64 c0, .int .i64 c1]] ?_) | go_at_call 73); (with_reducible refine (point_Turn.calls k p0 p1 q0 q1 c0 c1 r _ A2.out).mono ?_); rintro e w5 ⟨rfl, hb⟩; (first | refine ⟨_, rfl, ?_⟩ | skip); replace HB := bA (bS hb); (try clear hb)))
 go_ret
 exact bF
set_option maxHeartbeats 8000000 in
set_option maxRecDepth 100000 in
theorem box_Meets_2.calls (k gp gq gs gf : Nat) (p0 p1 q0 q1 s c0 c1 r : Int) {b : Bool} (w : World) (hp : w.heap[gp]? = some (.cells #[.int .i64 p0, .int .i64 p1] 28 (0, 0))) (hq : w.heap[gq]? = some (.cells #[.int .i64 q0, .int .i64 q1] 28 (0, 0)))
  (hs : w.heap[gs]? = some (.cells #[.func (.func 72) #[] #[.pointer (some ⟨gp, 0, none⟩), .pointer (some ⟨gq, 0, none⟩)]] 100 (0, 0))) (hf : w.heap[gf]? = some (.cells #[.int .i64 s] 3 (0, 0))) (h : point_Turn.f k p0 p1 q0 q1 c0 c1 = some r) (hrs : (r != s) = b) :
  Calls Try.prog 75 #[.agg #[.int .i64 c0, .int .i64 c1], .pointer (some ⟨gs, 0, none⟩), .pointer (some ⟨gf, 0, none⟩)] w fun e w' => e = .returned (.bool b) ∧ Below w.heap.size w w' := by
 subst hrs
 have hu41 := Try.underlying28
 have HB := bA (Below.refl w.heap.size w)
 have BKp := bA hp
 have BKq := bA hq
 have BKs := bA hs
 have BKf := bA hf
 clear hp hq hs hf
 have A2 := bA h
 clear h
 go_enter Try.func75, Try.ntmps75
 try go_wp2_with (first | ((with_reducible refine gate_dst (N := 3) rfl ?_); refine bE (N := 3) (cs := #[.int .i64 c0, .int .i64 c1]) (t := 28) ?_; intro gb140 hg w3 hbox hb; have BK140 := bA (hbox); replace BKp := bA (bB BKp hb); replace BKq := bA (bB BKq hb); replace BKs := bA (bB BKs hb); replace BKf := bA (bB BKf hb); replace HB := bA (bS hb); clear hb hbox hg))
 replace BK140 := bA (blk_drew BK140.out)
 replace BKp := bA (blk_drew BKp.out)
 replace BKq := bA (blk_drew BKq.out)
 replace BKs := bA (blk_drew BKs.out)
 replace BKf := bA (blk_drew BKf.out)
 replace HB := bA (below_drew1 HB.out)
 refine start_ (n := 6) (S := fun w' => w'.cell? ⟨gb140, 0, none⟩ = some (.int .i64 c0) ∧ w'.cell? ⟨gb140, 1, none⟩ = some (.int .i64 c1) ∧ w'.cell? ⟨gs, 0, none⟩ = some (.func (.func 72) #[] #[.pointer (some ⟨gp, 0, none⟩), .pointer (some ⟨gq, 0, none⟩)]) ∧ w'.cell? ⟨gf, 0, none⟩ = some (.int .i64 s)) (ds := []) #[false, false, false, false, false, false] (by kernel_rfl) rfl rfl ⟨bq BK140 0, bq BK140 1, bq BKs 0, bq BKf 0⟩ (fun hHeld => ?_)
 generalize w3.drew = w6 at BK140 BKp BKq BKs BKf HB hHeld ⊢
 refine take_ (i := 0) (N := some 5) (v := ?_) (a' := ?_) #[true, false, false, false, false, false] rfl rfl (by kernel_rfl) (fun _ _ _ h => h) (Or.inl ⟨by rfl, ?_⟩) hHeld ?_ ?_
 rotate_left
 ·rintro w' ⟨s0, s1, s2, s3⟩
  go_simp
  with_reducible rfl
 rotate_left
 ·simp only [Act.put, List.setIfInBounds_toArray, List.set_cons_zero, List.set_cons_succ, i64_w, i32_w]
  rfl
 refine take_ (i := 1) (N := some 6) (v := ?_) (a' := ?_) #[true, true, false, false, false, false] rfl rfl (by kernel_rfl) (fun _ _ _ h => h) (Or.inl ⟨by rfl, ?_⟩) hHeld ?_ ?_
 rotate_left
 ·rintro w' ⟨s0, s1, s2, s3⟩
  go_simp
  with_reducible rfl
 rotate_left
 ·simp only [Act.put, List.setIfInBounds_toArray, List.set_cons_zero, List.set_cons_succ, i64_w, i32_w]
  rfl
 refine take_ (i := 3) (N := some 8) (v := ?_) (a' := ?_) #[true, true, false, true, false, false] rfl rfl (by kernel_rfl) (fun _ _ _ h => h) (Or.inl ⟨by rfl, ?_⟩) hHeld ?_ ?_
 rotate_left
 ·rintro w' ⟨s0, s1, s2, s3⟩
  go_simp
  with_reducible rfl
 rotate_left
 ·simp only [Act.put, List.setIfInBounds_toArray, List.set_cons_zero, List.set_cons_succ, i64_w, i32_w]
  rfl
 refine one_ (i := 2) (N := some 7) #[true, true, true, true, false, false] rfl rfl (by kernel_rfl) (by decide) (fun K hK => ?_)
 refine call_ 72 #[.agg #[.int .i64 c0, .int .i64 c1], .pointer (some ⟨gp, 0, none⟩), .pointer (some ⟨gq, 0, none⟩)] (by rfl) rfl ?_ ?_
 ·have he := enters_ Try.func72 (by kernel_rfl) rfl #[.agg #[.int .i64 c0, .int .i64 c1], .pointer (some ⟨gp, 0, none⟩), .pointer (some ⟨gq, 0, none⟩)] w6
  unfold execOp
  simp [resolve, Deferred.ofValue, invoke, Act.eval, he]
 with_reducible refine (box_Meets_1.calls k gp gq p0 p1 q0 q1 c0 c1 r _ BKp.out BKq.out A2.out).mono ?_
 rintro e w7 ⟨rfl, hb⟩
 refine ⟨_, rfl, ?_⟩
 replace BK140 := bA (bB BK140 hb)
 replace BKs := bA (bB BKs hb)
 replace BKf := bA (bB BKf hb)
 replace HB := bA (bS hb)
 (try clear hb)
 refine hK.out _ _ ⟨bq BK140 0, bq BK140 1, bq BKs 0, bq BKf 0⟩ (fun hHeld => ?_)
 clear hK K
 refine bH ?_
 refine pure_ (i := 4) (N := some 9) (v := ?_) (a' := ?_) #[true, true, true, true, true, false] rfl rfl (by kernel_rfl) (fun _ _ _ h => h) (Or.inl ⟨by rfl, ?_⟩) ?_ ?_
 rotate_left
 ·intro w'
  go_simp
  with_reducible rfl
 rotate_left
 ·simp only [Act.put, List.setIfInBounds_toArray, List.set_cons_zero, List.set_cons_succ, i64_w, i32_w]
  rfl
 refine pure_ (i := 5) (N := some 4) (v := ?_) (a' := ?_) #[true, true, true, true, true, true] rfl rfl (by kernel_rfl) (fun _ _ _ h => h) (Or.inl ⟨by rfl, ?_⟩) ?_ ?_
 rotate_left
 ·intro w'
  go_simp
  with_reducible rfl
 rotate_left
 ·simp only [Act.put, List.setIfInBounds_toArray, List.set_cons_zero, List.set_cons_succ, i64_w, i32_w]
  rfl
 refine done_ (by kernel_rfl) ?_
 try go_wp2
 go_ret
 exact bF
theorem bL2 {W : World} {g g2 : Nat} {o : Obj} (h : W.heap[g]? = some o) (hg : g2 = W.heap.size) : g ≠ g2 := by rw [hg]; exact Nat.ne_of_lt (blk_lt h)
def box_Meets_2.l0 : Nat → List (S28) → Int → Int → Int → Int → Int → Int → Int → Option (Int)
 | 0, _, _, _, _, _, _, _, _ => none
 | k + 1, x0, p0, p1, q0, q1, s, x7, x8 => if x8 < x7 then (if 0 ≤ x8 then (if x8 < (x0.length : Int) then ((point_Turn.f k p0 p1 q0 q1 ((rd_T28 x0 x8).f0) ((rd_T28 x0 x8).f1)).bind fun t195 => (if (t195 != s) = true then (some x8) else (box_Meets_2.l0 k x0 p0 p1 q0 q1 s x7 (wrap64 (x8 + 1))))) else (none)) else (none)) else (some (-1))
theorem box_Meets_2.mono_l : ∀ k, (∀ y0 y1 y2 y3 y4 y5 y6 y7, LeO (box_Meets_2.l0 k y0 y1 y2 y3 y4 y5 y6 y7) (box_Meets_2.l0 (k + 1) y0 y1 y2 y3 y4 y5 y6 y7))
 | 0 => fun _ _ _ _ _ _ _ _ r h => by simp [box_Meets_2.l0] at h
 | k + 1 => by
  have ih0 := box_Meets_2.mono_l k
  intro y0 y1 y2 y3 y4 y5 y6 y7
  unfold box_Meets_2.l0
  have m0_ := @point_Turn.mono
  exact bMo
set_option maxHeartbeats 8000000 in
set_option maxRecDepth 100000 in
theorem box_Meets_2.index (k gp gq gs gf : Nat) (p0 p1 q0 q1 s : Int) (A0 : Option Addr) (c0 : Nat) (l0 : List (S28)) (r : Int) (w : World) (hp : w.heap[gp]? = some (.cells #[.int .i64 p0, .int .i64 p1] 28 (0, 0))) (hq : w.heap[gq]? = some (.cells #[.int .i64 q0, .int .i64 q1] 28 (0, 0)))
  (hs : w.heap[gs]? = some (.cells #[.func (.func 72) #[] #[.pointer (some ⟨gp, 0, none⟩), .pointer (some ⟨gq, 0, none⟩)]] 100 (0, 0))) (hf : w.heap[gf]? = some (.cells #[.int .i64 s] 3 (0, 0))) (hr0 : Kd.C k28 w A0 l0.length l0) (hc0 : l0.length ≤ c0) (h : box_Meets_2.l0 k l0 p0 p1 q0 q1 s (l0.length : Int) 0 = some r) :
  Calls Try.prog 82 #[.slice A0 l0.length c0, .func (.func 75) #[] #[.pointer (some ⟨gs, 0, none⟩), .pointer (some ⟨gf, 0, none⟩)]] w fun e w' => e = .returned (.int .i64 r) ∧ Below w.heap.size w w' := by
 have hu41 := Try.underlying28
 have HR0 := bA hr0
 have HC0 := bA hc0
 have Kp := bA hp
 have Kq := bA hq
 have Ks := bA hs
 have Kf := bA hf
 clear hr0 hc0 hp hq hs hf
 have HB := bA (Below.refl w.heap.size w)
 have H' := bA h
 clear h
 go_enter Try.func82, Try.ntmps82
 go_wp2
 go_loopg [8] k (fun kq v8 w' => ∃ (x8_1 : Int), v8 = .int .i64 x8_1 ∧ Aside0 (box_Meets_2.l0 kq l0 p0 p1 q0 q1 s (l0.length : Int) x8_1 = some r) ∧ Aside0 (kq ≤ k) ∧ Aside0 (Below w.heap.size w w'))
 case atStart => exact ⟨(0), bs, H', ⟨Nat.le_refl _⟩, ⟨bX⟩⟩
 case round =>
  clear H'
  obtain ⟨x8_1, rfl, HA, HK1, HB⟩ := hrel
  have BKp := bA (blk_below Kp.out HB.out)
  have BKq := bA (blk_below Kq.out HB.out)
  have BKs := bA (blk_below Ks.out HB.out)
  have BKf := bA (blk_below Kf.out HB.out)
  cases gk with
  | zero => exact absurd HA.out (by simp [box_Meets_2.l0])
  | succ k1 =>
   have H := HA.out
   clear HA
   simp only [box_Meets_2.l0] at H
   by_cases c3 : x8_1 < (l0.length : Int)
   ·rw [if_pos c3] at H
    have c3b0 : decide (x8_1 < (l0.length : Int)) = true := decide_eq_true c3
    clear c3
    by_cases c4 : 0 ≤ x8_1
    ·rw [if_pos c4] at H
     have c4b0 : decide (0 ≤ x8_1) = true := decide_eq_true c4
     clear c4
     rw [if_pos (of_decide_eq_true c3b0)] at H
     replace H := Option.bind_eq_some_iff.mp H
     obtain ⟨t195, A60, H⟩ := H
     have A6 := bA A60
     clear A60
     have p194 : 0 ≤ (x8_1 : Int) := bo
     have q194 : x8_1 < (l0.length : Int) := bo
     obtain ⟨ad194, e194, hx194_0, hx194_1⟩ := at_T28 HR0.out x8_1 p194 q194
     cases e194
     replace hx194_0 := bK hx194_0
     replace hx194_1 := bK hx194_1
     replace p194 := eq_true p194
     replace q194 := eq_true q194
     by_cases c7 : (t195 != s) = true
     ·have H1 : (some x8_1) = some r := by rw [if_pos c7] at H; exact H
      clear H
      obtain rfl := Option.some.inj H1
      clear H1
      go_wp2_with (first | (go_at_call 75; (with_reducible refine (box_Meets_2.calls k1 gp gq gs gf p0 p1 q0 q1 s ((rd_T28 l0 x8_1).f0) ((rd_T28 l0 x8_1).f1) t195 _ BKp.out BKq.out BKs.out BKf.out A6.out c7).mono ?_); rintro e w8 ⟨rfl, hb⟩; replace HB := bA (bS hb); (try clear hb)))
      go_ret
      exact bF
     ·replace c7 := Bool.eq_false_iff.mpr c7
      have H1 : (box_Meets_2.l0 k1 l0 p0 p1 q0 q1 s (l0.length : Int) (wrap64 (x8_1 + 1))) = some r := by rw [c7, if_neg bn] at H; exact H
      clear H
      have H' := bA H1
      clear H1
      go_wp2_with (first | (go_at_call 75; (with_reducible refine (box_Meets_2.calls k1 gp gq gs gf p0 p1 q0 q1 s ((rd_T28 l0 x8_1).f0) ((rd_T28 l0 x8_1).f1) t195 _ BKp.out BKq.out BKs.out BKf.out A6.out c7).mono ?_); rintro e w9 ⟨rfl, hb⟩; replace HB := bA (bS hb); (try clear hb)))
      go_roundg k1
      case measure => have := HK1.out; omega
      case rel => exact ⟨(wrap64 (x8_1 + 1)), bs, H', ⟨by have := HK1.out; omega⟩, ⟨bX⟩⟩
    ·rw [if_neg c4] at H
     exact absurd H (by simp)
   ·rw [if_neg c3] at H
    have c3b0 : decide (x8_1 < (l0.length : Int)) = false := decide_eq_false c3
    clear c3
    obtain rfl := Option.some.inj H
    go_wp2
    go_ret
    exact bF
def box_Meets_2.any (k : Nat) (l0 : List (S28)) (p0 p1 q0 q1 s : Int) : Option (Bool) := (box_Meets_2.l0 k l0 p0 p1 q0 q1 s (l0.length : Int) 0).bind fun t196 => (some (decide (t196 ≥ 0)))
set_option maxHeartbeats 8000000 in
set_option maxRecDepth 100000 in
theorem box_Meets_2.contains (k gp gq gs gf : Nat) (p0 p1 q0 q1 s : Int) (A0 : Option Addr) (c0 : Nat) (l0 : List (S28)) (r : Bool) (w : World) (hp : w.heap[gp]? = some (.cells #[.int .i64 p0, .int .i64 p1] 28 (0, 0))) (hq : w.heap[gq]? = some (.cells #[.int .i64 q0, .int .i64 q1] 28 (0, 0)))
  (hs : w.heap[gs]? = some (.cells #[.func (.func 72) #[] #[.pointer (some ⟨gp, 0, none⟩), .pointer (some ⟨gq, 0, none⟩)]] 100 (0, 0))) (hf : w.heap[gf]? = some (.cells #[.int .i64 s] 3 (0, 0))) (hr0 : Kd.C k28 w A0 l0.length l0) (hc0 : l0.length ≤ c0) (h : box_Meets_2.any k l0 p0 p1 q0 q1 s = some r) :
  Calls Try.prog 70 #[.slice A0 l0.length c0, .func (.func 75) #[] #[.pointer (some ⟨gs, 0, none⟩), .pointer (some ⟨gf, 0, none⟩)]] w fun e w' => e = .returned (.bool r) ∧ Below w.heap.size w w' := by
 have HR0 := bA hr0
 have HC0 := bA hc0
 have Kp := bA hp
 have Kq := bA hq
 have Ks := bA hs
 have Kf := bA hf
 clear hr0 hc0 hp hq hs hf
 have HB := bA (Below.refl w.heap.size w)
 unfold box_Meets_2.any at h
 replace h := Option.bind_eq_some_iff.mp h
 obtain ⟨t196, A30, H⟩ := h
 have A3 := bA A30
 clear A30
 obtain rfl := Option.some.inj H
 clear H
 go_enter Try.func70, Try.ntmps70
 go_wp2_with (first | (go_at_call 82; (with_reducible refine (box_Meets_2.index k gp gq gs gf p0 p1 q0 q1 s _ _ l0 t196 _ Kp.out Kq.out Ks.out Kf.out HR0.out HC0.out A3.out).mono ?_); rintro e w4 ⟨rfl, hb⟩; replace HB := bA (bS hb); (try clear hb)))
 go_ret
 exact bF
def box_Meets.f (k : Nat) (a0_0 : Int) (a0_1 : Int) (a0_2 : Int) (a0_3 : Int) (a1_0 : Int) (a1_1 : Int) (a2_0 : Int) (a2_1 : Int) : Option (Bool) :=
 (box_Right.f a0_0 a0_1 a0_2 a0_3).bind fun t1 => (if t1 = true then ((point_Right.f a1_0 a1_1).bind fun t2 => (if t2 = true then ((point_Right.f a2_0 a2_1).bind fun t3 => (if t3 = true then
  (if (mx a1_0 a2_0) < a0_0 then (some false) else (if (mn a1_0 a2_0) > a0_2 then (some false) else (if (mx a1_1 a2_1) < a0_1 then (some false) else (if (mn a1_1 a2_1) > a0_3 then (some false) else
   ((point_Turn.f k a1_0 a1_1 a2_0 a2_1 a0_0 a0_1).bind fun t4 => (if t4 = 0 then (some true) else ((box_Corners.f a0_0 a0_1 a0_2 a0_3).bind fun t5 => (box_Meets_2.any k t5 a1_0 a1_1 a2_0 a2_1 t4))))))))
  else (some false))) else (some false))) else (some false))
theorem box_Meets.mono : ∀ a0_0 a0_1 a0_2 a0_3 a1_0 a1_1 a2_0 a2_1 k, LeO (box_Meets.f k a0_0 a0_1 a0_2 a0_3 a1_0 a1_1 a2_0 a2_1) (box_Meets.f (k + 1) a0_0 a0_1 a0_2 a0_3 a1_0 a1_1 a2_0 a2_1) := by
 intro a0_0 a0_1 a0_2 a0_3 a1_0 a1_1 a2_0 a2_1 k
 unfold box_Meets.f box_Meets_2.any
 have m0_ := @box_Meets_2.mono_l
 have m1_ := @point_Turn.mono
 exact bMo
set_option maxHeartbeats 8000000 in
set_option maxRecDepth 100000 in
theorem box_Meets.calls (k : Nat) (a0_0 : Int) (a0_1 : Int) (a0_2 : Int) (a0_3 : Int) (a1_0 : Int) (a1_1 : Int) (a2_0 : Int) (a2_1 : Int) (r : Bool) (w : World) (h : box_Meets.f k a0_0 a0_1 a0_2 a0_3 a1_0 a1_1 a2_0 a2_1 = some r) :
  Calls Try.prog 60 #[.agg #[.int .i64 a0_0, .int .i64 a0_1, .int .i64 a0_2, .int .i64 a0_3], .agg #[.int .i64 a1_0, .int .i64 a1_1], .agg #[.int .i64 a2_0, .int .i64 a2_1]] w fun e w' => e = .returned (.bool r) ∧ Below w.heap.size w w' := by
 have hu44 := Try.underlying30
 have hu41 := Try.underlying28
 have hmf : ∀ (fn : Fn) (first cap : Array Value) (w : World), (Instr.makeFunc fn first cap).run Try.prog w = .ok (.func fn first cap) w := fun _ _ _ _ => rfl
 have HB := bA (Below.refl w.heap.size w)
 unfold box_Meets.f at h
 replace h := Option.bind_eq_some_iff.mp h
 obtain ⟨t1, A10, H⟩ := h
 have A1 := bA A10
 clear A10
 by_cases c1 : t1 = true
 subst c1
 rw [if_pos rfl] at H
 replace H := Option.bind_eq_some_iff.mp H
 obtain ⟨t2, A20, H⟩ := H
 have A2 := bA A20
 clear A20
 by_cases c2 : t2 = true
 subst c2
 rw [if_pos rfl] at H
 replace H := Option.bind_eq_some_iff.mp H
 obtain ⟨t3, A30, H⟩ := H
 have A3 := bA A30
 clear A30
 by_cases c3 : t3 = true
 subst c3
 rw [if_pos rfl] at H
 obtain ⟨j0, hj0⟩ : ∃ j_ : Int, (mx a1_0 a2_0) = j_ := ⟨_, rfl⟩
 rw [hj0] at H
 have hj0_ : (if a1_0 < a2_0 then a2_0 else a1_0) = j0 := hj0
 clear hj0
 by_cases d0 : j0 < a0_0
 rotate_left
 rw [if_neg d0] at H
 have d0b : decide (j0 < a0_0) = false := decide_eq_false d0
 clear d0
 obtain ⟨j1, hj1⟩ : ∃ j_ : Int, (mn a1_0 a2_0) = j_ := ⟨_, rfl⟩
 rw [hj1] at H
 have hj1_ : (if a2_0 < a1_0 then a2_0 else a1_0) = j1 := hj1
 clear hj1
 by_cases d1 : j1 > a0_2
 rotate_left
 rw [if_neg d1] at H
 have d1b : decide (a0_2 < j1) = false := decide_eq_false d1
 clear d1
 obtain ⟨j2, hj2⟩ : ∃ j_ : Int, (mx a1_1 a2_1) = j_ := ⟨_, rfl⟩
 rw [hj2] at H
 have hj2_ : (if a1_1 < a2_1 then a2_1 else a1_1) = j2 := hj2
 clear hj2
 by_cases d2 : j2 < a0_1
 rotate_left
 rw [if_neg d2] at H
 have d2b : decide (j2 < a0_1) = false := decide_eq_false d2
 clear d2
 obtain ⟨j3, hj3⟩ : ∃ j_ : Int, (mn a1_1 a2_1) = j_ := ⟨_, rfl⟩
 rw [hj3] at H
 have hj3_ : (if a2_1 < a1_1 then a2_1 else a1_1) = j3 := hj3
 clear hj3
 by_cases d3 : j3 > a0_3
 rotate_left
 rw [if_neg d3] at H
 have d3b : decide (a0_3 < j3) = false := decide_eq_false d3
 clear d3
 replace H := Option.bind_eq_some_iff.mp H
 obtain ⟨t4, A40, H⟩ := H
 have A4 := bA A40
 clear A40
 by_cases c4 : t4 = 0
 rw [if_pos c4] at H
 have c4b : (t4 == 0) = true := beq_iff_eq.mpr c4
 clear c4
 obtain rfl := Option.some.inj H
 rotate_left
 rw [if_neg c4] at H
 have c4b : (t4 == 0) = false := beq_eq_false_iff_ne.mpr c4
 clear c4
 replace H := Option.bind_eq_some_iff.mp H
 obtain ⟨t5, A50, A60⟩ := H
 have A5 := bA A50
 have A6 := bA A60
 clear A50 A60
 rotate_left
 replace c3 := Bool.eq_false_iff.mpr c3
 subst c3
 rw [if_neg bn] at H
 obtain rfl := Option.some.inj H
 rotate_left
 replace c2 := Bool.eq_false_iff.mpr c2
 subst c2
 rw [if_neg bn] at H
 obtain rfl := Option.some.inj H
 rotate_left
 replace c1 := Bool.eq_false_iff.mpr c1
 subst c1
 rw [if_neg bn] at H
 obtain rfl := Option.some.inj H
 rotate_left
 rw [if_pos d0] at H
 have d0b : decide (j0 < a0_0) = true := decide_eq_true d0
 clear d0
 obtain rfl := Option.some.inj H
 rotate_left
 rw [if_pos d1] at H
 have d1b : decide (a0_2 < j1) = true := decide_eq_true d1
 clear d1
 obtain rfl := Option.some.inj H
 rotate_left
 rw [if_pos d2] at H
 have d2b : decide (j2 < a0_1) = true := decide_eq_true d2
 clear d2
 obtain rfl := Option.some.inj H
 rotate_left
 rw [if_pos d3] at H
 have d3b : decide (a0_3 < j3) = true := decide_eq_true d3
 clear d3
 obtain rfl := Option.some.inj H
 rotate_left
 all_goals go_enter Try.func60, Try.ntmps60
 all_goals go_wp2_with (first | ((with_reducible refine gate_dst (N := 3) rfl ?_); refine bE (N := 3) (cs := #[.int .i64 a0_0, .int .i64 a0_1, .int .i64 a0_2, .int .i64 a0_3]) (t := 30) ?_; intro gb hg wb hbox hb; have BKb := bA (hbox); have GEb := bA (bZ hg);  replace HB := bA (bS hb); clear hb hbox hg;   skip) | ((with_reducible refine gate_dst (N := 4) rfl ?_); refine bE (N := 4) (cs := #[.int .i64 a1_0, .int .i64 a1_1]) (t := 28) ?_; intro gp hg wp hbox hb; have BKp := bA (hbox); have GEp := bA (bZ hg); have Nbp := bA (bL2 (bP (o := .cells #[.int .i64 a0_0, .int .i64 a0_1, .int .i64 a0_2, .int .i64 a0_3] 30 (0, 0)) BKb) hg); have Npb := bA (fun e_ => Nbp.out (Eq.symm e_)); replace BKb := bA (blk_below (bP (o := .cells #[.int .i64 a0_0, .int .i64 a0_1, .int .i64 a0_2, .int .i64 a0_3] 30 (0, 0)) BKb) hb); replace HB := bA (bS hb); clear hb hbox hg; have nbp := Nbp.out; have npb := Npb.out;   skip) | ((with_reducible refine gate_dst (N := 5) rfl ?_); refine bE (N := 5) (cs := #[.int .i64 a2_0, .int .i64 a2_1]) (t := 28) ?_; intro gq hg wq hbox hb; have BKq := bA (hbox); have GEq := bA (bZ hg); have Nbq := bA (bL2 (bP (o := .cells #[.int .i64 a0_0, .int .i64 a0_1, .int .i64 a0_2, .int .i64 a0_3] 30 (0, 0)) BKb) hg); have Nqb := bA (fun e_ => Nbq.out (Eq.symm e_)); have Npq := bA (bL2 (bP (o := .cells #[.int .i64 a1_0, .int .i64 a1_1] 28 (0, 0)) BKp) hg); have Nqp := bA (fun e_ => Npq.out (Eq.symm e_)); replace BKb := bA (blk_below (bP (o := .cells #[.int .i64 a0_0, .int .i64 a0_1, .int .i64 a0_2, .int .i64 a0_3] 30 (0, 0)) BKb) hb); replace BKp := bA (blk_below (bP (o := .cells #[.int .i64 a1_0, .int .i64 a1_1] 28 (0, 0)) BKp) hb); replace HB := bA (bS hb); clear hb hbox hg; have nbq := Nbq.out; have nqb := Nqb.out; have npq := Npq.out; have nqp := Nqp.out;  obtain ⟨zb0, zb1, zb2, zb3, yb0, yb1, yb2, yb3⟩ := bc4 BKb; obtain ⟨zp0, zp1, yp0, yp1⟩ := bc2 BKp; obtain ⟨zq0, zq1, yq0, yq1⟩ := bc2 BKq; skip) | (go_at_call 21; (with_reducible refine (box_Right.calls a0_0 a0_1 a0_2 a0_3 true _ A1.out).mono ?_); rintro e w_ ⟨rfl, hb⟩; replace BKb := bA (blk_below (bP (o := .cells #[.int .i64 a0_0, .int .i64 a0_1, .int .i64 a0_2, .int .i64 a0_3] 30 (0, 0)) BKb) hb); replace BKp := bA (blk_below (bP (o := .cells #[.int .i64 a1_0, .int .i64 a1_1] 28 (0, 0)) BKp) hb); replace BKq := bA (blk_below (bP (o := .cells #[.int .i64 a2_0, .int .i64 a2_1] 28 (0, 0)) BKq) hb); replace HB := bA (bS hb); (try clear hb); obtain ⟨zb0, zb1, zb2, zb3, yb0, yb1, yb2, yb3⟩ := bc4 BKb; obtain ⟨zp0, zp1, yp0, yp1⟩ := bc2 BKp; obtain ⟨zq0, zq1, yq0, yq1⟩ := bc2 BKq; skip) | (go_at_call 40; (with_reducible refine (point_Right.calls a1_0 a1_1 true _ A2.out).mono ?_); rintro e w_ ⟨rfl, hb⟩; replace BKb := bA (blk_below (bP (o := .cells #[.int .i64 a0_0, .int .i64 a0_1, .int .i64 a0_2, .int .i64 a0_3] 30 (0, 0)) BKb) hb); replace BKp := bA (blk_below (bP (o := .cells #[.int .i64 a1_0, .int .i64 a1_1] 28 (0, 0)) BKp) hb); replace BKq := bA (blk_below (bP (o := .cells #[.int .i64 a2_0, .int .i64 a2_1] 28 (0, 0)) BKq) hb); replace HB := bA (bS hb); (try clear hb); obtain ⟨zb0, zb1, zb2, zb3, yb0, yb1, yb2, yb3⟩ := bc4 BKb; obtain ⟨zp0, zp1, yp0, yp1⟩ := bc2 BKp; obtain ⟨zq0, zq1, yq0, yq1⟩ := bc2 BKq; skip) | (go_at_call 40; (with_reducible refine (point_Right.calls a2_0 a2_1 true _ A3.out).mono ?_); rintro e w_ ⟨rfl, hb⟩; replace BKb := bA (blk_below (bP (o := .cells #[.int .i64 a0_0, .int .i64 a0_1, .int .i64 a0_2, .int .i64 a0_3] 30 (0, 0)) BKb) hb); replace BKp := bA (blk_below (bP (o := .cells #[.int .i64 a1_0, .int .i64 a1_1] 28 (0, 0)) BKp) hb); replace BKq := bA (blk_below (bP (o := .cells #[.int .i64 a2_0, .int .i64 a2_1] 28 (0, 0)) BKq) hb); replace HB := bA (bS hb); (try clear hb); obtain ⟨zb0, zb1, zb2, zb3, yb0, yb1, yb2, yb3⟩ := bc4 BKb; obtain ⟨zp0, zp1, yp0, yp1⟩ := bc2 BKp; obtain ⟨zq0, zq1, yq0, yq1⟩ := bc2 BKq; skip) | (go_at_call 21; (with_reducible refine (box_Right.calls a0_0 a0_1 a0_2 a0_3 false _ A1.out).mono ?_); rintro e w_ ⟨rfl, hb⟩; replace BKb := bA (blk_below (bP (o := .cells #[.int .i64 a0_0, .int .i64 a0_1, .int .i64 a0_2, .int .i64 a0_3] 30 (0, 0)) BKb) hb); replace BKp := bA (blk_below (bP (o := .cells #[.int .i64 a1_0, .int .i64 a1_1] 28 (0, 0)) BKp) hb); replace BKq := bA (blk_below (bP (o := .cells #[.int .i64 a2_0, .int .i64 a2_1] 28 (0, 0)) BKq) hb); replace HB := bA (bS hb); (try clear hb); obtain ⟨zb0, zb1, zb2, zb3, yb0, yb1, yb2, yb3⟩ := bc4 BKb; obtain ⟨zp0, zp1, yp0, yp1⟩ := bc2 BKp; obtain ⟨zq0, zq1, yq0, yq1⟩ := bc2 BKq; skip) | (go_at_call 40; (with_reducible refine (point_Right.calls a1_0 a1_1 false _ A2.out).mono ?_); rintro e w_ ⟨rfl, hb⟩; replace BKb := bA (blk_below (bP (o := .cells #[.int .i64 a0_0, .int .i64 a0_1, .int .i64 a0_2, .int .i64 a0_3] 30 (0, 0)) BKb) hb); replace BKp := bA (blk_below (bP (o := .cells #[.int .i64 a1_0, .int .i64 a1_1] 28 (0, 0)) BKp) hb); replace BKq := bA (blk_below (bP (o := .cells #[.int .i64 a2_0, .int .i64 a2_1] 28 (0, 0)) BKq) hb); replace HB := bA (bS hb); (try clear hb); obtain ⟨zb0, zb1, zb2, zb3, yb0, yb1, yb2, yb3⟩ := bc4 BKb; obtain ⟨zp0, zp1, yp0, yp1⟩ := bc2 BKp; obtain ⟨zq0, zq1, yq0, yq1⟩ := bc2 BKq; skip) | (go_at_call 40; (with_reducible refine (point_Right.calls a2_0 a2_1 false _ A3.out).mono ?_); rintro e w_ ⟨rfl, hb⟩; replace BKb := bA (blk_below (bP (o := .cells #[.int .i64 a0_0, .int .i64 a0_1, .int .i64 a0_2, .int .i64 a0_3] 30 (0, 0)) BKb) hb); replace BKp := bA (blk_below (bP (o := .cells #[.int .i64 a1_0, .int .i64 a1_1] 28 (0, 0)) BKp) hb); replace BKq := bA (blk_below (bP (o := .cells #[.int .i64 a2_0, .int .i64 a2_1] 28 (0, 0)) BKq) hb); replace HB := bA (bS hb); (try clear hb); obtain ⟨zb0, zb1, zb2, zb3, yb0, yb1, yb2, yb3⟩ := bc4 BKb; obtain ⟨zp0, zp1, yp0, yp1⟩ := bc2 BKp; obtain ⟨zq0, zq1, yq0, yq1⟩ := bc2 BKq; skip) | ((with_reducible refine gate_dst (N := 7) rfl ?_); refine bE (N := 7) (cs := #[.nilFunc]) (t := 100) ?_; intro gs hg ws hbox hb; have BKs := bA (hbox); have GEs := bA (bZ hg); have Nbs := bA (bL2 (bP (o := .cells #[.int .i64 a0_0, .int .i64 a0_1, .int .i64 a0_2, .int .i64 a0_3] 30 (0, 0)) BKb) hg); have Nsb := bA (fun e_ => Nbs.out (Eq.symm e_)); have Nps := bA (bL2 (bP (o := .cells #[.int .i64 a1_0, .int .i64 a1_1] 28 (0, 0)) BKp) hg); have Nsp := bA (fun e_ => Nps.out (Eq.symm e_)); have Nqs := bA (bL2 (bP (o := .cells #[.int .i64 a2_0, .int .i64 a2_1] 28 (0, 0)) BKq) hg); have Nsq := bA (fun e_ => Nqs.out (Eq.symm e_)); replace BKb := bA (blk_below (bP (o := .cells #[.int .i64 a0_0, .int .i64 a0_1, .int .i64 a0_2, .int .i64 a0_3] 30 (0, 0)) BKb) hb); replace BKp := bA (blk_below (bP (o := .cells #[.int .i64 a1_0, .int .i64 a1_1] 28 (0, 0)) BKp) hb); replace BKq := bA (blk_below (bP (o := .cells #[.int .i64 a2_0, .int .i64 a2_1] 28 (0, 0)) BKq) hb); replace HB := bA (bS hb); clear hb hbox hg; have nbs := Nbs.out; have nsb := Nsb.out; have nps := Nps.out; have nsp := Nsp.out; have nqs := Nqs.out; have nsq := Nsq.out;  obtain ⟨zb0, zb1, zb2, zb3, yb0, yb1, yb2, yb3⟩ := bc4 BKb; obtain ⟨zp0, zp1, yp0, yp1⟩ := bc2 BKp; obtain ⟨zq0, zq1, yq0, yq1⟩ := bc2 BKq; obtain ⟨zs0, ys0⟩ := bc1 BKs; skip) | (go_at_call 72; (with_reducible refine (box_Meets_1.calls k gp gq a1_0 a1_1 a2_0 a2_1 a0_0 a0_1 t4 _ ?sp ?sq A4.out).mono ?_); (case sp => exact bP BKp); (case sq => exact bP BKq); rintro e w_ ⟨rfl, hb⟩; replace BKb := bA (blk_below (bP (o := .cells #[.int .i64 a0_0, .int .i64 a0_1, .int .i64 a0_2, .int .i64 a0_3] 30 (0, 0)) BKb) hb); replace BKp := bA (blk_below (bP (o := .cells #[.int .i64 a1_0, .int .i64 a1_1] 28 (0, 0)) BKp) hb); replace BKq := bA (blk_below (bP (o := .cells #[.int .i64 a2_0, .int .i64 a2_1] 28 (0, 0)) BKq) hb); replace BKs := bA (blk_below (blk_put (cs := #[.nilFunc]) BKs.out 0 _ rfl) hb); replace HB := bA (bS hb); (try clear hb); obtain ⟨zb0, zb1, zb2, zb3, yb0, yb1, yb2, yb3⟩ := bc4 BKb; obtain ⟨zp0, zp1, yp0, yp1⟩ := bc2 BKp; obtain ⟨zq0, zq1, yq0, yq1⟩ := bc2 BKq; obtain ⟨zs0, ys0⟩ := bc1 BKs; skip) | ((with_reducible refine gate_dst (N := 8) rfl ?_); refine bE (N := 8) (cs := #[.int .i64 0]) (t := 3) ?_; intro gf hg wf hbox hb; have BKf := bA (hbox); have GEf := bA (bZ hg); have Nbf := bA (bL2 (bP (o := .cells #[.int .i64 a0_0, .int .i64 a0_1, .int .i64 a0_2, .int .i64 a0_3] 30 (0, 0)) BKb) hg); have Nfb := bA (fun e_ => Nbf.out (Eq.symm e_)); have Npf := bA (bL2 (bP (o := .cells #[.int .i64 a1_0, .int .i64 a1_1] 28 (0, 0)) BKp) hg); have Nfp := bA (fun e_ => Npf.out (Eq.symm e_)); have Nqf := bA (bL2 (bP (o := .cells #[.int .i64 a2_0, .int .i64 a2_1] 28 (0, 0)) BKq) hg); have Nfq := bA (fun e_ => Nqf.out (Eq.symm e_)); have Nsf := bA (bL2 (bP (o := .cells #[.func (.func 72) #[] #[.pointer (some ⟨gp, 0, none⟩), .pointer (some ⟨gq, 0, none⟩)]] 100 (0, 0)) BKs) hg); have Nfs := bA (fun e_ => Nsf.out (Eq.symm e_)); replace BKb := bA (blk_below (bP (o := .cells #[.int .i64 a0_0, .int .i64 a0_1, .int .i64 a0_2, .int .i64 a0_3] 30 (0, 0)) BKb) hb); replace BKp := bA (blk_below (bP (o := .cells #[.int .i64 a1_0, .int .i64 a1_1] 28 (0, 0)) BKp) hb); replace BKq := bA (blk_below (bP (o := .cells #[.int .i64 a2_0, .int .i64 a2_1] 28 (0, 0)) BKq) hb); replace BKs := bA (blk_below (bP (o := .cells #[.func (.func 72) #[] #[.pointer (some ⟨gp, 0, none⟩), .pointer (some ⟨gq, 0, none⟩)]] 100 (0, 0)) BKs) hb); replace HB := bA (bS hb); clear hb hbox hg; have nbf := Nbf.out; have nfb := Nfb.out; have npf := Npf.out; have nfp := Nfp.out; have nqf := Nqf.out; have nfq := Nfq.out; have nsf := Nsf.out; have nfs := Nfs.out;  obtain ⟨zb0, zb1, zb2, zb3, yb0, yb1, yb2, yb3⟩ := bc4 BKb; obtain ⟨zp0, zp1, yp0, yp1⟩ := bc2 BKp; obtain ⟨zq0, zq1, yq0, yq1⟩ := bc2 BKq; obtain ⟨zs0, ys0⟩ := bc1 BKs; obtain ⟨zf0, yf0⟩ := bc1 BKf; skip) | (go_at_call 74; (with_reducible refine (box_Corners.calls a0_0 a0_1 a0_2 a0_3 t5 _ A5.out).mono ?_); rintro e w_ ⟨v_, rfl, ho, hb⟩; obtain ⟨Al, cl, rfl, hcl, hC⟩ := Kd.R_reads ho; replace BKb := bA (blk_below (bP (o := .cells #[.int .i64 a0_0, .int .i64 a0_1, .int .i64 a0_2, .int .i64 a0_3] 30 (0, 0)) BKb) hb); replace BKp := bA (blk_below (bP (o := .cells #[.int .i64 a1_0, .int .i64 a1_1] 28 (0, 0)) BKp) hb); replace BKq := bA (blk_below (bP (o := .cells #[.int .i64 a2_0, .int .i64 a2_1] 28 (0, 0)) BKq) hb); replace BKs := bA (blk_below (bP (o := .cells #[.func (.func 72) #[] #[.pointer (some ⟨gp, 0, none⟩), .pointer (some ⟨gq, 0, none⟩)]] 100 (0, 0)) BKs) hb); replace BKf := bA (blk_below (blk_put (cs := #[.int .i64 0]) BKf.out 0 _ rfl) hb); replace HB := bA (bS hb); (try clear hb); obtain ⟨zb0, zb1, zb2, zb3, yb0, yb1, yb2, yb3⟩ := bc4 BKb; obtain ⟨zp0, zp1, yp0, yp1⟩ := bc2 BKp; obtain ⟨zq0, zq1, yq0, yq1⟩ := bc2 BKq; obtain ⟨zs0, ys0⟩ := bc1 BKs; obtain ⟨zf0, yf0⟩ := bc1 BKf; skip) | (go_at_call 70; (with_reducible refine (box_Meets_2.contains k gp gq gs gf a1_0 a1_1 a2_0 a2_1 t4 _ _ t5 r _ ?sp ?sq ?ss ?sf hC hcl A6.out).mono ?_); (case sp => exact bP BKp); (case sq => exact bP BKq); (case ss => exact bP BKs); (case sf => exact bP BKf); rintro e w_ ⟨rfl, hb⟩;  replace HB := bA (bS hb); (try clear hb);  skip))
 all_goals (go_ret; exact bF)
end Go.Proofs.Ytfeekdoakoabeaa.G
