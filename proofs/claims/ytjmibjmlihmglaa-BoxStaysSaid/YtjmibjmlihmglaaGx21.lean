-- Written by a program of this session out of the translation; Lean checks it.
import Derived.Test.YtjmibjmlihmglaaGx0
import Derived.Test.YtjmibjmlihmglaaGx7
import Derived.Test.YtjmibjmlihmglaaGx8
import Derived.Test.YtjmibjmlihmglaaGx14
import Derived.Test.YtjmibjmlihmglaaGx15
import Derived.Test.YtjmibjmlihmglaaGx20
namespace Go.Proofs.Ytjmibjmlihmglaa.G
open Go.RowKit Go.Proofs.YtjmibjmlihmglaaW.PrintWords Go.Proofs.YtjmibjmlihmglaaW.PrintLast Go.Proofs.YtjmibjmlihmglaaW.PrintMore
attribute [local go_sem] max2_int min2_int max_two min_two max_three min_three max_four min_four   -- for this text's walks alone
set_option linter.unusedVariables false
set_option linter.unusedSimpArgs false

/-! ### apogeelaw12_BoxMeets: function 10 -/
def apogeelaw12_BoxMeets.f (k : Nat) (a0_0 : Int) (a0_1 : Int) (a0_2 : Int) (a0_3 : Int) (a1_0 : Int) (a1_1 : Int) (a2_0 : Int) (a2_1 : Int) : Option (Bool) := (box_Meets.f k a0_0 a0_1 a0_2 a0_3 a1_0 a1_1 a2_0 a2_1).bind fun t530 => ((apogeelaw12_awake.f k).bind fun t531 => (if t531 = true then ((apogeeref12_Meets.f k a0_0 a0_1 a0_2 a0_3 a1_0 a1_1 a2_0 a2_1).bind fun t532 => (if (t530 == t532) = true then ((box_Meets.f k a0_0 a0_1 a0_2 a0_3 a2_0 a2_1 a1_0 a1_1).bind fun t533 => (if (t530 == t533) = true then ((box_Has.f a0_0 a0_1 a0_2 a0_3 a1_0 a1_1).bind fun t534 => (if t534 = true then ((apogeeref10_Right.f a2_0 a2_1).bind fun t535 => (if t535 = true then (some t530) else (some true))) else (some true))) else (none))) else (none))) else (none)))
theorem apogeelaw12_BoxMeets.mono : ∀ a0 a1 a2 a3 a4 a5 a6 a7 k, LeO (apogeelaw12_BoxMeets.f k a0 a1 a2 a3 a4 a5 a6 a7) (apogeelaw12_BoxMeets.f (k + 1) a0 a1 a2 a3 a4 a5 a6 a7) := by
 intro a0 a1 a2 a3 a4 a5 a6 a7 k
 unfold apogeelaw12_BoxMeets.f
 repeat' first
   | (with_reducible exact apogeelaw12_awake.mono _)
   | (with_reducible exact apogeeref12_Meets.mono _ _ _ _ _ _ _ _ _)
   | (with_reducible exact box_Meets.mono _ _ _ _ _ _ _ _ _)
   | (with_reducible exact LeO.refl _)
   | (with_reducible exact LeO.none _)
   | (with_reducible refine LeO.ite ?_ ?_)
   | (with_reducible refine LeO.bind ?_ (fun _ => ?_))
   | exact apogeelaw12_awake.mono _
   | exact apogeeref12_Meets.mono _ _ _ _ _ _ _ _ _
   | exact box_Meets.mono _ _ _ _ _ _ _ _ _
   | exact LeO.none _
   | refine LeO.ite ?_ ?_
   | refine LeO.bind ?_ (fun _ => ?_)
set_option maxHeartbeats 8000000 in
set_option maxRecDepth 100000 in
theorem apogeelaw12_BoxMeets.calls (k : Nat) (a0_0 : Int) (a0_1 : Int) (a0_2 : Int) (a0_3 : Int) (a1_0 : Int) (a1_1 : Int) (a2_0 : Int) (a2_1 : Int) (r : Bool) (w : World) (h : apogeelaw12_BoxMeets.f k a0_0 a0_1 a0_2 a0_3 a1_0 a1_1 a2_0 a2_1 = some r) :
  Calls Try.prog 10 #[.agg #[.int .i64 a0_0, .int .i64 a0_1, .int .i64 a0_2, .int .i64 a0_3], .agg #[.int .i64 a1_0, .int .i64 a1_1], .agg #[.int .i64 a2_0, .int .i64 a2_1]] w fun e w' => e = .returned (.bool r) ∧ Below w.heap.size w w' := by
 have hu44 := Try.underlying44
 have hu41 := Try.underlying41
 have HB := bA (Below.refl w.heap.size w)
 have H : ((box_Meets.f k a0_0 a0_1 a0_2 a0_3 a1_0 a1_1 a2_0 a2_1).bind fun t530 => ((apogeelaw12_awake.f k).bind fun t531 => (if t531 = true then ((apogeeref12_Meets.f k a0_0 a0_1 a0_2 a0_3 a1_0 a1_1 a2_0 a2_1).bind fun t532 => (if (t530 == t532) = true then ((box_Meets.f k a0_0 a0_1 a0_2 a0_3 a2_0 a2_1 a1_0 a1_1).bind fun t533 => (if (t530 == t533) = true then ((box_Has.f a0_0 a0_1 a0_2 a0_3 a1_0 a1_1).bind fun t534 => (if t534 = true then ((apogeeref10_Right.f a2_0 a2_1).bind fun t535 => (if t535 = true then (some t530) else (some true))) else (some true))) else (none))) else (none))) else (none)))) = some r := h
 clear h
 replace H := Option.bind_eq_some_iff.mp H
 obtain ⟨t530, A40, H⟩ := H
 have A4 := bA A40
 clear A40
 replace H := Option.bind_eq_some_iff.mp H
 obtain ⟨t531, A50, H⟩ := H
 have A5 := bA A50
 clear A50
 by_cases c6 : t531 = true
 subst c6
 rw [if_pos rfl] at H
 replace H := Option.bind_eq_some_iff.mp H
 obtain ⟨t532, A70, H⟩ := H
 have A7 := bA A70
 clear A70
 by_cases c8 : (t530 == t532) = true
 rw [if_pos c8] at H
 have c8b0 : (t530 == t532) = true := c8
 (try (have c8b1 : decide (t530 = t532) = true := by simpa using c8))
 (try (have c8b2 : (t530 == t532) = true := by simpa using c8))
 clear c8
 replace H := Option.bind_eq_some_iff.mp H
 obtain ⟨t533, A90, H⟩ := H
 have A9 := bA A90
 clear A90
 by_cases c10 : (t530 == t533) = true
 rw [if_pos c10] at H
 have c10b0 : (t530 == t533) = true := c10
 (try (have c10b1 : decide (t530 = t533) = true := by simpa using c10))
 (try (have c10b2 : (t530 == t533) = true := by simpa using c10))
 clear c10
 replace H := Option.bind_eq_some_iff.mp H
 obtain ⟨t534, A110, H⟩ := H
 have A11 := bA A110
 clear A110
 by_cases c12 : t534 = true
 subst c12
 rw [if_pos rfl] at H
 replace H := Option.bind_eq_some_iff.mp H
 obtain ⟨t535, A130, H⟩ := H
 have A13 := bA A130
 clear A130
 by_cases c14 : t535 = true
 subst c14
 rw [if_pos rfl] at H
 obtain rfl := Option.some.inj H
 rotate_left
 replace c14 := Bool.eq_false_iff.mpr c14
 subst c14
 rw [if_neg bn] at H
 obtain rfl := Option.some.inj H
 rotate_left
 replace c12 := Bool.eq_false_iff.mpr c12
 subst c12
 rw [if_neg bn] at H
 obtain rfl := Option.some.inj H
 rotate_left
 rw [if_neg c10] at H
 exact absurd H (by simp)
 rw [if_neg c8] at H
 exact absurd H (by simp)
 replace c6 := Bool.eq_false_iff.mpr c6
 subst c6
 rw [if_neg bn] at H
 exact absurd H (by simp)
 all_goals go_enter Try.func10, Try.ntmps10
 all_goals go_wp2_with (first | ((with_reducible refine gate_dst (N := 3) rfl ?_); refine bE (N := 3) (cs := #[.int .i64 a0_0, .int .i64 a0_1, .int .i64 a0_2, .int .i64 a0_3]) (t := 44) ?_; intro gb527 hg wz0 hbox hb; have BK527 := bA (hbox); have GW527 := bA (bZ hg); have GE527 := bA (bZ hg); replace HB := bA (bS hb); clear hb hbox hg) | ((with_reducible refine gate_dst (N := 4) rfl ?_); refine bE (N := 4) (cs := #[.int .i64 a1_0, .int .i64 a1_1]) (t := 41) ?_; intro gb528 hg wz1 hbox hb; have BK528 := bA (hbox); have GW528 := bA (bZ hg); have GE528 := bA (bZ hg); have NB527_528 := bA (bL BK527 hg); have NB528_527 := bA (bG BK527 hg); replace BK527 := bA (bB BK527 hb); replace HB := bA (bS hb); clear hb hbox hg) | ((with_reducible refine gate_dst (N := 5) rfl ?_); refine bE (N := 5) (cs := #[.int .i64 a2_0, .int .i64 a2_1]) (t := 41) ?_; intro gb529 hg wz2 hbox hb; have BK529 := bA (hbox); have GW529 := bA (bZ hg); have GE529 := bA (bZ hg); have NB527_529 := bA (bL BK527 hg); have NB529_527 := bA (bG BK527 hg); have NB528_529 := bA (bL BK528 hg); have NB529_528 := bA (bG BK528 hg); replace BK527 := bA (bB BK527 hb); replace BK528 := bA (bB BK528 hb); replace HB := bA (bS hb); clear hb hbox hg; have hz1 := NB527_528.out; have hz2 := NB528_527.out; have hz3 := NB527_529.out; have hz4 := NB529_527.out; obtain ⟨hz5, hz6, hz7, hz8, hz9, hz10, hz11, hz12⟩ := bc4 BK527; have hz13 := NB528_529.out; have hz14 := NB529_528.out; obtain ⟨hz15, hz16, hz17, hz18⟩ := bc2 BK528; obtain ⟨hz19, hz20, hz21, hz22⟩ := bc2 BK529) | ((first | ((with_reducible refine gate_callee (f := 43) rfl ?_); refine bC (some 11) Try.func43 #[.agg #[.int .i64 a0_0, .int .i64 a0_1, .int .i64 a0_2, .int .i64 a0_3], .agg #[.int .i64 a1_0, .int .i64 a1_1], .agg #[.int .i64 a2_0, .int .i64 a2_1]] ?_) | go_at_call 43); (with_reducible refine (box_Meets.calls k a0_0 a0_1 a0_2 a0_3 a1_0 a1_1 a2_0 a2_1 t530 _ A4.out).mono ?_); rintro e wz3 ⟨rfl, hb⟩; (first | refine ⟨_, rfl, ?_⟩ | skip); replace BK527 := bA (bB BK527 hb); replace BK528 := bA (bB BK528 hb); replace BK529 := bA (bB BK529 hb); replace HB := bA (bS hb); (try clear hb)) | ((first | ((with_reducible refine gate_callee (f := 44) rfl ?_); refine bC (some 12) Try.func44 #[] ?_) | go_at_call 44); (with_reducible refine (apogeelaw12_awake.calls k  true _ A5.out).mono ?_); rintro e wz4 ⟨rfl, hb⟩; (first | refine ⟨_, rfl, ?_⟩ | skip); replace BK527 := bA (bB BK527 hb); replace BK528 := bA (bB BK528 hb); replace BK529 := bA (bB BK529 hb); replace HB := bA (bS hb); (try clear hb); obtain ⟨hz23, hz24, hz25, hz26, hz9, hz10, hz11, hz12⟩ := bc4 BK527; obtain ⟨hz27, hz28, hz17, hz18⟩ := bc2 BK528; obtain ⟨hz29, hz30, hz21, hz22⟩ := bc2 BK529) | (go_at_call 45; (with_reducible refine (apogeeref12_Meets.calls k a0_0 a0_1 a0_2 a0_3 a1_0 a1_1 a2_0 a2_1 t532 _ A7.out).mono ?_); rintro e wz5 ⟨rfl, hb⟩; replace BK527 := bA (bB BK527 hb); replace BK528 := bA (bB BK528 hb); replace BK529 := bA (bB BK529 hb); replace HB := bA (bS hb); (try clear hb); obtain ⟨hz31, hz32, hz33, hz34, hz9, hz10, hz11, hz12⟩ := bc4 BK527; obtain ⟨hz35, hz36, hz21, hz22⟩ := bc2 BK529; obtain ⟨hz37, hz38, hz17, hz18⟩ := bc2 BK528) | (go_at_call 43; (with_reducible refine (box_Meets.calls k a0_0 a0_1 a0_2 a0_3 a2_0 a2_1 a1_0 a1_1 t533 _ A9.out).mono ?_); rintro e wz6 ⟨rfl, hb⟩; replace BK527 := bA (bB BK527 hb); replace BK528 := bA (bB BK528 hb); replace BK529 := bA (bB BK529 hb); replace HB := bA (bS hb); (try clear hb); obtain ⟨hz39, hz40, hz41, hz42, hz9, hz10, hz11, hz12⟩ := bc4 BK527; obtain ⟨hz43, hz44, hz17, hz18⟩ := bc2 BK528) | (go_at_call 46; (with_reducible refine (box_Has.calls a0_0 a0_1 a0_2 a0_3 a1_0 a1_1 true _ A11.out).mono ?_); rintro e wz7 ⟨rfl, hb⟩; replace BK527 := bA (bB BK527 hb); replace BK528 := bA (bB BK528 hb); replace BK529 := bA (bB BK529 hb); replace HB := bA (bS hb); (try clear hb); obtain ⟨hz45, hz46, hz21, hz22⟩ := bc2 BK529) | (go_at_call 40; (with_reducible refine (apogeeref10_Right.calls a2_0 a2_1 true _ A13.out).mono ?_); rintro e wz8 ⟨rfl, hb⟩; replace BK527 := bA (bB BK527 hb); replace BK528 := bA (bB BK528 hb); replace BK529 := bA (bB BK529 hb); replace HB := bA (bS hb); (try clear hb)) | (go_at_call 40; (with_reducible refine (apogeeref10_Right.calls a2_0 a2_1 false _ A13.out).mono ?_); rintro e wz8 ⟨rfl, hb⟩; replace BK527 := bA (bB BK527 hb); replace BK528 := bA (bB BK528 hb); replace BK529 := bA (bB BK529 hb); replace HB := bA (bS hb); (try clear hb)) | (go_at_call 46; (with_reducible refine (box_Has.calls a0_0 a0_1 a0_2 a0_3 a1_0 a1_1 false _ A11.out).mono ?_); rintro e wz7 ⟨rfl, hb⟩; replace BK527 := bA (bB BK527 hb); replace BK528 := bA (bB BK528 hb); replace BK529 := bA (bB BK529 hb); replace HB := bA (bS hb); (try clear hb)))
 all_goals (go_ret; exact bF)
/-! ### apogeeref11_next: function 69 -/
def apogeeref11_next.f (l0 : List (S41)) (a1 : Int) : Option (Int × Int) := if (l0.length : Int) = 0 then (none) else (if 0 ≤ (Int.tmod (wrap64 (a1 + 1)) (l0.length : Int)) then (if (Int.tmod (wrap64 (a1 + 1)) (l0.length : Int)) < (l0.length : Int) then (some ((rd_T41 l0 (Int.tmod (wrap64 (a1 + 1)) (l0.length : Int))).f0, (rd_T41 l0 (Int.tmod (wrap64 (a1 + 1)) (l0.length : Int))).f1)) else (none)) else (none))
set_option maxHeartbeats 8000000 in
set_option maxRecDepth 100000 in
theorem apogeeref11_next.calls (A0 : Option Addr) (c0 : Nat) (l0 : List (S41)) (a1 : Int) (r1 : Int) (r2 : Int) (w : World) (hr0 : Kd.C k41 w A0 l0.length l0) (hc0 : l0.length ≤ c0) (h : apogeeref11_next.f l0 a1 = some (r1, r2)) :
  Calls Try.prog 69 #[.slice A0 l0.length c0, .int .i64 a1] w fun e w' => e = .returned (.agg #[.int .i64 r1, .int .i64 r2]) ∧ Below w.heap.size w w' := by
 have hu41 := Try.underlying41
 have HR0 := bA hr0
 have HC0 := bA hc0
 clear hr0 hc0
 have HB := bA (Below.refl w.heap.size w)
 have H : (if (l0.length : Int) = 0 then (none) else (if 0 ≤ (Int.tmod (wrap64 (a1 + 1)) (l0.length : Int)) then (if (Int.tmod (wrap64 (a1 + 1)) (l0.length : Int)) < (l0.length : Int) then (some ((rd_T41 l0 (Int.tmod (wrap64 (a1 + 1)) (l0.length : Int))).f0, (rd_T41 l0 (Int.tmod (wrap64 (a1 + 1)) (l0.length : Int))).f1)) else (none)) else (none))) = some (r1, r2) := h
 clear h
 by_cases c3 : (l0.length : Int) = 0
 ·rw [if_pos c3] at H
  exact absurd H (by simp)
 rw [if_neg c3] at H
 have c3b0 : ((l0.length : Int) == 0) = false := beq_eq_false_iff_ne.mpr c3
 have c3b1 : ((l0.length : Int) != 0) = true := bne_iff_ne.mpr c3
 have c3b2 : ¬ (l0 = []) := fun h_ => c3 (by rw [h_]; rfl)
 obtain ⟨ji4, hji4⟩ : ∃ j_ : Int, (Int.tmod (wrap64 (a1 + 1)) (l0.length : Int)) = j_ := ⟨_, rfl⟩
 replace H : (if 0 ≤ (ji4) then (if (ji4) < (l0.length : Int) then (some ((rd_T41 l0 (ji4)).f0, (rd_T41 l0 (ji4)).f1)) else (none)) else (none)) = some (r1, r2) := by first | (rw [hji4] at H; exact H) | (simp only [hji4] at H ⊢; exact H)
 by_cases c5 : 0 ≤ (ji4)
 rotate_left
 ·rw [if_neg c5] at H
  exact absurd H (by simp)
 rw [if_pos c5] at H
 have c5b0 : decide (0 ≤ (ji4)) = true := decide_eq_true c5
 clear c5
 by_cases c6 : (ji4) < (l0.length : Int)
 rotate_left
 ·rw [if_neg c6] at H
  exact absurd H (by simp)
 rw [if_pos c6] at H
 have c6b0 : decide ((ji4) < (l0.length : Int)) = true := decide_eq_true c6
 clear c6
 simp only [Option.some.injEq, Prod.mk.injEq] at H
 obtain ⟨rfl, rfl⟩ := H
 go_enter Try.func69, Try.ntmps69
 go_wp2_with (first | ((with_reducible refine gate_dst (N := 4) rfl ?_); refine bE (N := 4) (cs := #[.int .i64 0, .int .i64 0]) (t := 41) ?_; intro gb536 hg w7 hbox hb; have BK536 := bA (hbox); have GW536 := bA (bZ hg); have GE536 := bA (bZ hg); replace HB := bA (bS hb); clear hb hbox hg; have p537 : 0 ≤ ((ji4) : Int) := bo; have q537 : (ji4) < (l0.length : Int) := bo; obtain ⟨ad537, e537, hx537_0, hx537_1⟩ := at_T41 HR0.out (ji4) p537 q537; cases e537; replace hx537_0 := bK hx537_0; replace hx537_1 := bK hx537_1; replace p537 := eq_true p537; replace q537 := eq_true q537; obtain ⟨hcz8_0, hcz8_1, hfz8_0, hfz8_1⟩ := bc2 BK536))
 refine bodyPost_ret (results_cell_row rfl _ _ gb536 41 #[.int .i64 ((rd_T41 l0 (ji4)).f0), .int .i64 ((rd_T41 l0 (ji4)).f1)] (0, 0) _ rfl (by (with_reducible repeat (first | refine blk_drewN ?_ _ | refine blk_drew ?_ | refine blk_alloc ?_ _)); refine blk_put (cs := #[.int .i64 ((rd_T41 l0 (ji4)).f0), .int .i64 0]) ?_ 1 _ rfl; (with_reducible repeat (first | refine blk_drewN ?_ _ | refine blk_drew ?_ | refine blk_alloc ?_ _)); refine blk_put (cs := #[.int .i64 0, .int .i64 0]) ?_ 0 _ rfl; (with_reducible repeat (first | refine blk_drewN ?_ _ | refine blk_drew ?_ | refine blk_alloc ?_ _)); exact BK536.out) Try.underlying41 rfl (by kernel_rfl)) rfl ?_
 exact ⟨by first | rfl | (simp [errW_none, errW_some] <;> rfl) | (simp only [← hji4]; first | rfl | (simp [errW_none, errW_some] <;> rfl)) | (simp [*, errW_none, errW_some] <;> rfl), by repeat (first | (with_reducible first | exact HB.out | apply below_alloc | apply pw_below_drewN | apply below_drew1 | refine below_set ?_ GE536.out) | exact HB.out)⟩
end Go.Proofs.Ytjmibjmlihmglaa.G
