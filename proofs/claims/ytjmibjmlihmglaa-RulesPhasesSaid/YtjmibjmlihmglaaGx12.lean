-- Written by a program of this session out of the translation; Lean checks it.
import Derived.Test.YtjmibjmlihmglaaGx0
namespace Go.Proofs.Ytjmibjmlihmglaa.G
open Go.RowKit Go.Proofs.YtjmibjmlihmglaaW.PrintWords Go.Proofs.YtjmibjmlihmglaaW.PrintLast Go.Proofs.YtjmibjmlihmglaaW.PrintMore
attribute [local go_sem] max2_int min2_int max_two min_two max_three min_three max_four min_four   -- for this text's walks alone
set_option linter.unusedVariables false
set_option linter.unusedSimpArgs false

/-! ### apogeeref13_Few: function 15 -/
def apogeeref13_Few.l0 : Nat → Int → List (S30) → Int → Int → Int → Int → Int → Int → Int → Int → Option (Bool)
 | 0, _, _, _, _, _, _, _, _, _, _ => none
 | k + 1, x3, x352000, x352001, x352002, x352003, x352004, x352005, x352006, x352007, x352008 => if x3 < (x352000.length : Int) then (if 0 ≤ x3 then (if (((rd_T30 x352000 x3).f0).length : Int) > 12 then (some false) else (apogeeref13_Few.l0 k (wrap64 (x3 + 1)) x352000 x352001 x352002 x352003 x352004 x352005 x352006 x352007 x352008)) else (none)) else (some (decide ((x352000.length : Int) ≤ 8)))
def apogeeref13_Few.f (k : Nat) (l0_0 : List (S30)) (a0_1 : Int) (a0_2 : Int) (a0_3 : Int) (a0_4 : Int) (a0_5 : Int) (a0_6 : Int) (a0_7 : Int) (a0_8 : Int) : Option (Bool) := apogeeref13_Few.l0 k 0 l0_0 a0_1 a0_2 a0_3 a0_4 a0_5 a0_6 a0_7 a0_8
theorem apogeeref13_Few.mono_l : ∀ k, (∀ y0 y1 y2 y3 y4 y5 y6 y7 y8 y9, LeO (apogeeref13_Few.l0 k y0 y1 y2 y3 y4 y5 y6 y7 y8 y9) (apogeeref13_Few.l0 (k + 1) y0 y1 y2 y3 y4 y5 y6 y7 y8 y9))
 | 0 => fun _ _ _ _ _ _ _ _ _ _ r h => by simp [apogeeref13_Few.l0] at h
 | k + 1 => by
  have ih0 := apogeeref13_Few.mono_l k
  ·intro y0 y1 y2 y3 y4 y5 y6 y7 y8 y9
   unfold apogeeref13_Few.l0
   exact bMo
theorem apogeeref13_Few.mono : ∀ a0 a1 a2 a3 a4 a5 a6 a7 a8 k, LeO (apogeeref13_Few.f k a0 a1 a2 a3 a4 a5 a6 a7 a8) (apogeeref13_Few.f (k + 1) a0 a1 a2 a3 a4 a5 a6 a7 a8) := by
 intro a0 a1 a2 a3 a4 a5 a6 a7 a8 k
 have ih0 := apogeeref13_Few.mono_l k
 unfold apogeeref13_Few.f
 exact bMo
set_option maxHeartbeats 8000000 in
set_option maxRecDepth 100000 in
theorem apogeeref13_Few.calls (k : Nat) (A0_0 : Option Addr) (c0_0 : Nat) (l0_0 : List (S30)) (a0_1 : Int) (a0_2 : Int) (a0_3 : Int) (a0_4 : Int) (a0_5 : Int) (a0_6 : Int) (a0_7 : Int) (a0_8 : Int) (r : Bool) (w : World) (hr0_0 : Kd.C k30 w A0_0 l0_0.length l0_0) (hc0_0 : l0_0.length ≤ c0_0) (h : apogeeref13_Few.f k l0_0 a0_1 a0_2 a0_3 a0_4 a0_5 a0_6 a0_7 a0_8 = some r) :
  Calls Try.prog 15 #[.agg #[.slice A0_0 l0_0.length c0_0, .int .i64 a0_1, .int .i64 a0_2, .int .i64 a0_3, .int .i64 a0_4, .int .i64 a0_5, .int .i64 a0_6, .int .i64 a0_7, .int .i64 a0_8]] w fun e w' => e = .returned (.bool r) ∧ Below w.heap.size w w' := by
 have hu24 := Try.underlying24
 have HR0_0 := bA hr0_0
 have HC0_0 := bA hc0_0
 clear hr0_0 hc0_0
 have HB := bA (Below.refl w.heap.size w)
 have H : (apogeeref13_Few.l0 k 0 l0_0 a0_1 a0_2 a0_3 a0_4 a0_5 a0_6 a0_7 a0_8) = some r := h
 clear h
 have H' := bA H
 clear H
 go_enter Try.func15, Try.ntmps15
 go_wp2_with (first | ((with_reducible refine gate_dst (N := 1) rfl ?_); refine bE (N := 1) (cs := #[.slice A0_0 l0_0.length c0_0, .int .i64 a0_1, .int .i64 a0_2, .int .i64 a0_3, .int .i64 a0_4, .int .i64 a0_5, .int .i64 a0_6, .int .i64 a0_7, .int .i64 a0_8]) (t := 24) ?_; intro gb351 hg w2 hbox hb; have BK351 := bA (hbox); have GW351 := bA (bZ hg); have GE351 := bA (bZ hg); replace HB := bA (bS hb); clear hb hbox hg))
 go_loopg [3] k (fun kq v3 w' => ∃ (x3_1 : Int), v3 = .int .i64 x3_1 ∧ Aside0 (apogeeref13_Few.l0 kq x3_1 l0_0 a0_1 a0_2 a0_3 a0_4 a0_5 a0_6 a0_7 a0_8 = some r) ∧ Aside0 (kq ≤ k) ∧ Aside0 (w'.heap[gb351]? = some (.cells #[(.slice A0_0 l0_0.length c0_0), .int .i64 a0_1, .int .i64 a0_2, .int .i64 a0_3, .int .i64 a0_4, .int .i64 a0_5, .int .i64 a0_6, .int .i64 a0_7, .int .i64 a0_8] 24 (0, 0))) ∧ Aside0 (Below w.heap.size w w'))
 case atStart => exact ⟨(0), bs, H', ⟨Nat.le_refl _⟩, ⟨by (with_reducible repeat (first | refine blk_drewN ?_ _ | refine blk_drew ?_ | refine blk_alloc ?_ _)); exact BK351.out⟩, ⟨bX⟩⟩
 clear H'
 try clear c1
 try clear p2
 obtain ⟨x3_1, rfl, HA, HK1, BK351, HB⟩ := hrel
 cases gk with
 | zero => exact absurd HA.out (by simp [apogeeref13_Few.l0])
 | succ k1 =>
  have H := HA.out
  clear HA
  simp only [apogeeref13_Few.l0] at H
  by_cases c3 : x3_1 < (l0_0.length : Int)
  rw [if_pos c3] at H
  have c3b0 : decide (x3_1 < (l0_0.length : Int)) = true := decide_eq_true c3
  clear c3
  by_cases c4 : 0 ≤ x3_1
  rw [if_pos c4] at H
  have c4b0 : decide (0 ≤ x3_1) = true := decide_eq_true c4
  clear c4
  by_cases c5 : (((rd_T30 l0_0 x3_1).f0).length : Int) > 12
  rw [if_pos c5] at H
  have c5b0 : decide (12 < (((rd_T30 l0_0 x3_1).f0).length : Int)) = true := decide_eq_true c5
  have c5b1 : decide (12 < ((rd_T30 l0_0 x3_1).f0).length) = true := decide_eq_true (by omega)
  clear c5
  obtain rfl := Option.some.inj H
  obtain ⟨hcz6_0, hcz6_1, hcz6_2, hcz6_3, hcz6_4, hcz6_5, hcz6_6, hcz6_7, hcz6_8, hfz6_0, hfz6_1, hfz6_2, hfz6_3, hfz6_4, hfz6_5, hfz6_6, hfz6_7, hfz6_8⟩ := bc9 BK351
  have p352 : 0 ≤ (x3_1 : Int) := bo
  have q352 : x3_1 < (l0_0.length : Int) := bo
  obtain ⟨ad352, A352_0, c352_0, e352, hx352_0, hx352_1, hx352_2, hx352_3, hx352_4, hl352_0, hi352_0⟩ := at_T30 HR0_0.out x3_1 p352 q352
  cases e352
  replace hx352_0 := bK hx352_0
  replace hx352_1 := bK hx352_1
  replace hx352_2 := bK hx352_2
  replace hx352_3 := bK hx352_3
  replace hx352_4 := bK hx352_4
  have HR352_0 := bA hi352_0
  have HC352_0 := bA hl352_0
  clear hi352_0 hl352_0
  replace p352 := eq_true p352
  replace q352 := eq_true q352
  rotate_left
  rw [if_neg c5] at H
  have c5b0 : decide (12 < (((rd_T30 l0_0 x3_1).f0).length : Int)) = false := decide_eq_false c5
  have c5b1 : decide (12 < ((rd_T30 l0_0 x3_1).f0).length) = false := decide_eq_false (by omega)
  clear c5
  have H' := bA H
  clear H
  obtain ⟨hcz7_0, hcz7_1, hcz7_2, hcz7_3, hcz7_4, hcz7_5, hcz7_6, hcz7_7, hcz7_8, hfz7_0, hfz7_1, hfz7_2, hfz7_3, hfz7_4, hfz7_5, hfz7_6, hfz7_7, hfz7_8⟩ := bc9 BK351
  have p352 : 0 ≤ (x3_1 : Int) := bo
  have q352 : x3_1 < (l0_0.length : Int) := bo
  obtain ⟨ad352, A352_0, c352_0, e352, hx352_0, hx352_1, hx352_2, hx352_3, hx352_4, hl352_0, hi352_0⟩ := at_T30 HR0_0.out x3_1 p352 q352
  cases e352
  replace hx352_0 := bK hx352_0
  replace hx352_1 := bK hx352_1
  replace hx352_2 := bK hx352_2
  replace hx352_3 := bK hx352_3
  replace hx352_4 := bK hx352_4
  have HR352_0 := bA hi352_0
  have HC352_0 := bA hl352_0
  clear hi352_0 hl352_0
  replace p352 := eq_true p352
  replace q352 := eq_true q352
  rotate_left
  rw [if_neg c4] at H
  exact absurd H (by simp)
  rw [if_neg c3] at H
  have c3b0 : decide (x3_1 < (l0_0.length : Int)) = false := decide_eq_false c3
  clear c3
  obtain rfl := Option.some.inj H
  obtain ⟨hcz8_0, hcz8_1, hcz8_2, hcz8_3, hcz8_4, hcz8_5, hcz8_6, hcz8_7, hcz8_8, hfz8_0, hfz8_1, hfz8_2, hfz8_3, hfz8_4, hfz8_5, hfz8_6, hfz8_7, hfz8_8⟩ := bc9 BK351
  rotate_left
  all_goals go_wp2
  ·go_ret
   exact bF
  ·go_roundg k1
   case measure => have := HK1.out; omega
   case rel => exact ⟨(wrap64 (x3_1 + 1)), bs, H', ⟨by have := HK1.out; omega⟩, ⟨by (with_reducible repeat (first | refine blk_drewN ?_ _ | refine blk_drew ?_ | refine blk_alloc ?_ _)); exact BK351.out⟩, ⟨bX⟩⟩
  go_ret
  exact bF
/-! ### apogeeref10_Right: function 40 -/
def apogeeref10_Right.f (a0_0 : Int) (a0_1 : Int) : Option (Bool) := if a0_0 ≥ (-1099511627776) then (if a0_0 ≤ 1099511627776 then (if a0_1 ≥ (-1099511627776) then (some (decide (a0_1 ≤ 1099511627776))) else (some false)) else (some false)) else (some false)
set_option maxHeartbeats 8000000 in
set_option maxRecDepth 100000 in
theorem apogeeref10_Right.calls (a0_0 : Int) (a0_1 : Int) (r : Bool) (w : World) (h : apogeeref10_Right.f a0_0 a0_1 = some r) :
  Calls Try.prog 40 #[.agg #[.int .i64 a0_0, .int .i64 a0_1]] w fun e w' => e = .returned (.bool r) ∧ Below w.heap.size w w' := by
 have hu41 := Try.underlying41
 have HB := bA (Below.refl w.heap.size w)
 have H : (if a0_0 ≥ (-1099511627776) then (if a0_0 ≤ 1099511627776 then (if a0_1 ≥ (-1099511627776) then (some (decide (a0_1 ≤ 1099511627776))) else (some false)) else (some false)) else (some false)) = some r := h
 clear h
 by_cases c2 : a0_0 ≥ (-1099511627776)
 rw [if_pos c2] at H
 have c2b0 : decide ((-1099511627776) ≤ a0_0) = true := decide_eq_true c2
 clear c2
 by_cases c3 : a0_0 ≤ 1099511627776
 rw [if_pos c3] at H
 have c3b0 : decide (a0_0 ≤ 1099511627776) = true := decide_eq_true c3
 clear c3
 by_cases c4 : a0_1 ≥ (-1099511627776)
 rw [if_pos c4] at H
 have c4b0 : decide ((-1099511627776) ≤ a0_1) = true := decide_eq_true c4
 clear c4
 obtain rfl := Option.some.inj H
 rotate_left
 rw [if_neg c4] at H
 have c4b0 : decide ((-1099511627776) ≤ a0_1) = false := decide_eq_false c4
 clear c4
 obtain rfl := Option.some.inj H
 rotate_left
 rw [if_neg c3] at H
 have c3b0 : decide (a0_0 ≤ 1099511627776) = false := decide_eq_false c3
 clear c3
 obtain rfl := Option.some.inj H
 rotate_left
 rw [if_neg c2] at H
 have c2b0 : decide ((-1099511627776) ≤ a0_0) = false := decide_eq_false c2
 clear c2
 obtain rfl := Option.some.inj H
 rotate_left
 all_goals go_enter Try.func40, Try.ntmps40
 all_goals go_wp2_with (first | ((with_reducible refine gate_dst (N := 1) rfl ?_); refine bE (N := 1) (cs := #[.int .i64 a0_0, .int .i64 a0_1]) (t := 41) ?_; intro gb353 hg wz0 hbox hb; have BK353 := bA (hbox); have GW353 := bA (bZ hg); have GE353 := bA (bZ hg); replace HB := bA (bS hb); clear hb hbox hg; obtain ⟨hz1, hz2, hz3, hz4⟩ := bc2 BK353))
 all_goals (go_ret; exact bF)
/-! ### apogeeref11_next: function 69 -/
def apogeeref11_next.f (l0 : List (S41)) (a1 : Int) : Option (Int × Int) := if (l0.length : Int) = 0 then (none) else (if 0 ≤ (Int.tmod (wrap64 (a1 + 1)) (l0.length : Int)) then (if (Int.tmod (wrap64 (a1 + 1)) (l0.length : Int)) < (l0.length : Int) then (some ((rd_T41 l0 (Int.tmod (wrap64 (a1 + 1)) (l0.length : Int))).f0, (rd_T41 l0 (Int.tmod (wrap64 (a1 + 1)) (l0.length : Int))).f1)) else (none)) else (none))
set_option maxHeartbeats 8000000 in
set_option maxRecDepth 100000 in
theorem apogeeref11_next.calls (A0 : Option Addr) (c0 : Nat) (l0 : List (S41)) (a1 : Int) (r1 : Int) (r2 : Int) (w : World) (hr0 : Kd.C k41 w A0 l0.length l0) (hc0 : l0.length ≤ c0) (h : apogeeref11_next.f l0 a1 = some (r1, r2)) :
  Calls Try.prog 69 #[.slice A0 l0.length c0, .int .i64 a1] w fun e w' => e = .returned (.agg #[.int .i64 r1, .int .i64 r2]) ∧ Below w.heap.size w w' := by
 have hu41 := Try.underlying41
 have HR0 := bA hr0
 have HC0 := bA hc0
 clear hr0 hc0
 have HB := bA (Below.refl w.heap.size w)
 have H : (if (l0.length : Int) = 0 then (none) else (if 0 ≤ (Int.tmod (wrap64 (a1 + 1)) (l0.length : Int)) then (if (Int.tmod (wrap64 (a1 + 1)) (l0.length : Int)) < (l0.length : Int) then (some ((rd_T41 l0 (Int.tmod (wrap64 (a1 + 1)) (l0.length : Int))).f0, (rd_T41 l0 (Int.tmod (wrap64 (a1 + 1)) (l0.length : Int))).f1)) else (none)) else (none))) = some (r1, r2) := h
 clear h
 by_cases c3 : (l0.length : Int) = 0
 ·rw [if_pos c3] at H
  exact absurd H (by simp)
 rw [if_neg c3] at H
 have c3b0 : ((l0.length : Int) == 0) = false := beq_eq_false_iff_ne.mpr c3
 have c3b1 : ((l0.length : Int) != 0) = true := bne_iff_ne.mpr c3
 have c3b2 : ¬ (l0 = []) := fun h_ => c3 (by rw [h_]; rfl)
 obtain ⟨ji4, hji4⟩ : ∃ j_ : Int, (Int.tmod (wrap64 (a1 + 1)) (l0.length : Int)) = j_ := ⟨_, rfl⟩
 replace H : (if 0 ≤ (ji4) then (if (ji4) < (l0.length : Int) then (some ((rd_T41 l0 (ji4)).f0, (rd_T41 l0 (ji4)).f1)) else (none)) else (none)) = some (r1, r2) := by first | (rw [hji4] at H; exact H) | (simp only [hji4] at H ⊢; exact H)
 by_cases c5 : 0 ≤ (ji4)
 rotate_left
 ·rw [if_neg c5] at H
  exact absurd H (by simp)
 rw [if_pos c5] at H
 have c5b0 : decide (0 ≤ (ji4)) = true := decide_eq_true c5
 clear c5
 by_cases c6 : (ji4) < (l0.length : Int)
 rotate_left
 ·rw [if_neg c6] at H
  exact absurd H (by simp)
 rw [if_pos c6] at H
 have c6b0 : decide ((ji4) < (l0.length : Int)) = true := decide_eq_true c6
 clear c6
 simp only [Option.some.injEq, Prod.mk.injEq] at H
 obtain ⟨rfl, rfl⟩ := H
 go_enter Try.func69, Try.ntmps69
 go_wp2_with (first | ((with_reducible refine gate_dst (N := 4) rfl ?_); refine bE (N := 4) (cs := #[.int .i64 0, .int .i64 0]) (t := 41) ?_; intro gb354 hg w7 hbox hb; have BK354 := bA (hbox); have GW354 := bA (bZ hg); have GE354 := bA (bZ hg); replace HB := bA (bS hb); clear hb hbox hg; have p355 : 0 ≤ ((ji4) : Int) := bo; have q355 : (ji4) < (l0.length : Int) := bo; obtain ⟨ad355, e355, hx355_0, hx355_1⟩ := at_T41 HR0.out (ji4) p355 q355; cases e355; replace hx355_0 := bK hx355_0; replace hx355_1 := bK hx355_1; replace p355 := eq_true p355; replace q355 := eq_true q355; obtain ⟨hcz8_0, hcz8_1, hfz8_0, hfz8_1⟩ := bc2 BK354))
 refine bodyPost_ret (results_cell_row rfl _ _ gb354 41 #[.int .i64 ((rd_T41 l0 (ji4)).f0), .int .i64 ((rd_T41 l0 (ji4)).f1)] (0, 0) _ rfl (by (with_reducible repeat (first | refine blk_drewN ?_ _ | refine blk_drew ?_ | refine blk_alloc ?_ _)); refine blk_put (cs := #[.int .i64 ((rd_T41 l0 (ji4)).f0), .int .i64 0]) ?_ 1 _ rfl; (with_reducible repeat (first | refine blk_drewN ?_ _ | refine blk_drew ?_ | refine blk_alloc ?_ _)); refine blk_put (cs := #[.int .i64 0, .int .i64 0]) ?_ 0 _ rfl; (with_reducible repeat (first | refine blk_drewN ?_ _ | refine blk_drew ?_ | refine blk_alloc ?_ _)); exact BK354.out) Try.underlying41 rfl (by kernel_rfl)) rfl ?_
 exact ⟨by first | rfl | (simp [errW_none, errW_some] <;> rfl) | (simp only [← hji4]; first | rfl | (simp [errW_none, errW_some] <;> rfl)) | (simp [*, errW_none, errW_some] <;> rfl), by repeat (first | (with_reducible first | exact HB.out | apply below_alloc | apply pw_below_drewN | apply below_drew1 | refine below_set ?_ GE354.out) | exact HB.out)⟩
/-! ### apogeeref10_short: function 105 -/
def apogeeref10_short.f (a0 : Int) : Option (Bool) := if a0 > (-2147483648) then (some (decide (a0 < 2147483648))) else (some false)
set_option maxHeartbeats 8000000 in
set_option maxRecDepth 100000 in
theorem apogeeref10_short.calls (a0 : Int) (r : Bool) (w : World) (h : apogeeref10_short.f a0 = some r) :
  Calls Try.prog 105 #[.int .i64 a0] w fun e w' => e = .returned (.bool r) ∧ Drawn0 w w' := by
 have H : (if a0 > (-2147483648) then (some (decide (a0 < 2147483648))) else (some false)) = some r := h
 clear h
 by_cases c2 : a0 > (-2147483648)
 rw [if_pos c2] at H
 have c2b0 : decide ((-2147483648) < a0) = true := decide_eq_true c2
 clear c2
 obtain rfl := Option.some.inj H
 rotate_left
 rw [if_neg c2] at H
 have c2b0 : decide ((-2147483648) < a0) = false := decide_eq_false c2
 clear c2
 obtain rfl := Option.some.inj H
 rotate_left
 all_goals go_enter Try.func105, Try.ntmps105
 all_goals go_wp2
 all_goals (go_ret; exact bD)
/-! ### apogeeref01_Of: function 110 -/
def apogeeref01_Of.f (a0 : Int) : Option (Int × Int) := if a0 < 0 then (some ((-1), IntKind.u64.wrap (a0))) else (some (0, IntKind.u64.wrap (a0)))
set_option maxHeartbeats 8000000 in
set_option maxRecDepth 100000 in
theorem apogeeref01_Of.calls (a0 : Int) (r1 : Int) (r2 : Int) (w : World) (h : apogeeref01_Of.f a0 = some (r1, r2)) :
  Calls Try.prog 110 #[.int .i64 a0] w fun e w' => e = .returned (.agg #[.int .i64 r1, .int .u64 r2]) ∧ Below w.heap.size w w' := by
 have hu90 := Try.underlying90
 have HB := bA (Below.refl w.heap.size w)
 have H : (if a0 < 0 then (some ((-1), IntKind.u64.wrap (a0))) else (some (0, IntKind.u64.wrap (a0)))) = some (r1, r2) := h
 clear h
 by_cases c2 : a0 < 0
 rw [if_pos c2] at H
 have c2b0 : decide (a0 < 0) = true := decide_eq_true c2
 clear c2
 simp only [Option.some.injEq, Prod.mk.injEq] at H
 obtain ⟨rfl, rfl⟩ := H
 rotate_left
 rw [if_neg c2] at H
 have c2b0 : decide (a0 < 0) = false := decide_eq_false c2
 clear c2
 simp only [Option.some.injEq, Prod.mk.injEq] at H
 obtain ⟨rfl, rfl⟩ := H
 rotate_left
 all_goals go_enter Try.func110, Try.ntmps110
 all_goals go_wp2_with (first | ((with_reducible refine gate_dst (N := 2) rfl ?_); refine bE (N := 2) (cs := #[.int .i64 0, .int .u64 0]) (t := 90) ?_; intro gb356 hg wz0 hbox hb; have BK356 := bA (hbox); have GW356 := bA (bZ hg); have GE356 := bA (bZ hg); replace HB := bA (bS hb); clear hb hbox hg; obtain ⟨hz1, hz2, hz3, hz4⟩ := bc2 BK356))
 ·refine bodyPost_ret (results_cell_row rfl _ _ gb356 90 #[.int .i64 (-1), .int .u64 (IntKind.u64.wrap (a0))] (0, 0) _ rfl (by (with_reducible repeat (first | refine blk_drewN ?_ _ | refine blk_drew ?_ | refine blk_alloc ?_ _)); refine blk_put (cs := #[.int .i64 (-1), .int .u64 0]) ?_ 1 _ rfl; (with_reducible repeat (first | refine blk_drewN ?_ _ | refine blk_drew ?_ | refine blk_alloc ?_ _)); refine blk_put (cs := #[.int .i64 0, .int .u64 0]) ?_ 0 _ rfl; (with_reducible repeat (first | refine blk_drewN ?_ _ | refine blk_drew ?_ | refine blk_alloc ?_ _)); exact BK356.out) Try.underlying90 rfl (by kernel_rfl)) rfl ?_
  exact bF
 refine bodyPost_ret (results_cell_row rfl _ _ gb356 90 #[.int .i64 0, .int .u64 (IntKind.u64.wrap (a0))] (0, 0) _ rfl (by (with_reducible repeat (first | refine blk_drewN ?_ _ | refine blk_drew ?_ | refine blk_alloc ?_ _)); refine blk_put (cs := #[.int .i64 0, .int .u64 0]) ?_ 1 _ rfl; (with_reducible repeat (first | refine blk_drewN ?_ _ | refine blk_drew ?_ | refine blk_alloc ?_ _)); refine blk_put (cs := #[.int .i64 0, .int .u64 0]) ?_ 0 _ rfl; (with_reducible repeat (first | refine blk_drewN ?_ _ | refine blk_drew ?_ | refine blk_alloc ?_ _)); exact BK356.out) Try.underlying90 rfl (by kernel_rfl)) rfl ?_
 exact bF
/-! ### apogeeref01_bits: function 118 -/
mutual
def apogeeref01_bits.l0 : Nat → List Int → Int → Int → Int → Option (List Int)
 | 0, _, _, _, _ => none
 | k + 1, x3, x4, x358000, x358001 => if x4 < 64 then (if 0 ≤ x4 then (if x3.length < 17592186044416 then (apogeeref01_bits.l0 k (x3 ++ [wrap64 (Go.bits .and .u64 (shr .u64 x358001 x4) 1)]) (wrap64 (x4 + 1)) x358000 x358001) else (none)) else (none)) else (apogeeref01_bits.l1 k x3 0 x358000 x358001)
def apogeeref01_bits.l1 : Nat → List Int → Int → Int → Int → Option (List Int)
 | 0, _, _, _, _ => none
 | k + 1, x3, x5, x358000, x358001 => if x5 < 64 then (if 0 ≤ x5 then (if x3.length < 17592186044416 then (apogeeref01_bits.l1 k (x3 ++ [wrap64 (Go.bits .and .u64 (shr .u64 (IntKind.u64.wrap (x358000)) x5) 1)]) (wrap64 (x5 + 1)) x358000 x358001) else (none)) else (none)) else (some x3)
end
def apogeeref01_bits.f (k : Nat) (a0_0 : Int) (a0_1 : Int) : Option (List Int) := apogeeref01_bits.l0 k ([] : List Int) 0 a0_0 a0_1
theorem apogeeref01_bits.mono_l : ∀ k, (∀ y0 y1 y2 y3, LeO (apogeeref01_bits.l0 k y0 y1 y2 y3) (apogeeref01_bits.l0 (k + 1) y0 y1 y2 y3)) ∧ (∀ y0 y1 y2 y3, LeO (apogeeref01_bits.l1 k y0 y1 y2 y3) (apogeeref01_bits.l1 (k + 1) y0 y1 y2 y3))
 | 0 => ⟨fun _ _ _ _ r h => by simp [apogeeref01_bits.l0] at h, fun _ _ _ _ r h => by simp [apogeeref01_bits.l1] at h⟩
 | k + 1 => by
  obtain ⟨ih0, ih1⟩ := apogeeref01_bits.mono_l k
  refine ⟨?_, ?_⟩
  ·intro y0 y1 y2 y3
   unfold apogeeref01_bits.l0
   exact bMo
  ·intro y0 y1 y2 y3
   unfold apogeeref01_bits.l1
   exact bMo
theorem apogeeref01_bits.mono : ∀ a0 a1 k, LeO (apogeeref01_bits.f k a0 a1) (apogeeref01_bits.f (k + 1) a0 a1) := by
 intro a0 a1 k
 obtain ⟨ih0, ih1⟩ := apogeeref01_bits.mono_l k
 unfold apogeeref01_bits.f
 exact bMo
set_option maxHeartbeats 8000000 in
set_option maxRecDepth 100000 in
theorem apogeeref01_bits.calls (k : Nat) (a0_0 : Int) (a0_1 : Int) (r : List Int) (w : World) (h : apogeeref01_bits.f k a0_0 a0_1 = some r) :
  Calls Try.prog 118 #[.agg #[.int .i64 a0_0, .int .u64 a0_1]] w fun e w' => ∃ v0_ : Value, e = .returned (v0_) ∧ Kd.R (Kd.int .i64) 3 w' w.heap.size (fun _ => True) v0_ r ∧ Below w.heap.size w w' := by
 have hu90 := Try.underlying90
 have HB := bA (Below.refl w.heap.size w)
 have H : (apogeeref01_bits.l0 k ([] : List Int) 0 a0_0 a0_1) = some r := h
 clear h
 have H' := bA H
 clear H
 go_enter Try.func118, Try.ntmps118
 go_wp2_with (first | ((with_reducible refine gate_dst (N := 1) rfl ?_); refine bE (N := 1) (cs := #[.int .i64 a0_0, .int .u64 a0_1]) (t := 90) ?_; intro gb357 hg w2 hbox hb; have BK357 := bA (hbox); have GW357 := bA (bZ hg); have GE357 := bA (bZ hg); replace HB := bA (bS hb); clear hb hbox hg))
 go_loopg [3, 4] k (fun kq v3 v4 w' => ∃ (x3_1 : List Int) (x4_1 : Int), v4 = .int .i64 x4_1 ∧ Aside0 (apogeeref01_bits.l0 kq x3_1 x4_1 a0_0 a0_1 = some r) ∧ Aside0 (kq ≤ k) ∧ Aside0 (Kd.R (Kd.int .i64) 3 w' w.heap.size (fun _ => True) v3 x3_1) ∧ Aside0 (w'.heap[gb357]? = some (.cells #[.int .i64 a0_0, .int .u64 a0_1] 90 (0, 0))) ∧ Aside0 (Below w.heap.size w w'))
 case atStart => exact ⟨(([] : List Int)), (0), bs, H', ⟨Nat.le_refl _⟩, ⟨by first | exact Kd.R_nil _ _ _ _ _ | exact Kd.N_nil _ _ _ _ _ | exact Kd.V_nil _ _ _ _ _ | exact Kd.Q_nil _ _ _ _ _ | exact Kd.S_nil _ _ _ _ _⟩, ⟨by (with_reducible repeat (first | refine blk_drewN ?_ _ | refine blk_drew ?_ | refine blk_alloc ?_ _)); exact BK357.out⟩, ⟨bX⟩⟩
 clear H'
 try clear c1
 try clear p2
 obtain ⟨x3_1, x4_1, rfl, HA, HK1, HO_3, BK357, HB⟩ := hrel
 cases gk with
 | zero => exact absurd HA.out (by simp [apogeeref01_bits.l0])
 | succ k1 =>
  have H := HA.out
  clear HA
  simp only [apogeeref01_bits.l0] at H
  by_cases c3 : x4_1 < 64
  ·rw [if_pos c3] at H
   have c3b0 : decide (x4_1 < 64) = true := decide_eq_true c3
   clear c3
   by_cases c4 : 0 ≤ x4_1
   rotate_left
   ·rw [if_neg c4] at H
    exact absurd H (by simp)
   rw [if_pos c4] at H
   have c4b0 := eq_true c4
   have c4b1 : decide (0 ≤ x4_1) = true := decide_eq_true c4
   clear c4
   obtain ⟨ji5, hji5⟩ : ∃ j_ : Int, (shr .u64 a0_1 x4_1) = j_ := ⟨_, rfl⟩
   replace H : (if x3_1.length < 17592186044416 then (apogeeref01_bits.l0 k1 (x3_1 ++ [wrap64 (Go.bits .and .u64 (ji5) 1)]) (wrap64 (x4_1 + 1)) a0_0 a0_1) else (none)) = some r := by first | (rw [hji5] at H; exact H) | (simp only [hji5] at H ⊢; exact H)
   have hji5_ : (a0_1 / 2 ^ min x4_1.toNat 64) = ji5 := hji5
   have hji5z : x4_1 ≤ 64 → (a0_1 / 2 ^ x4_1.toNat) = ji5 := shr_small hji5
   by_cases c6 : x3_1.length < 17592186044416
   rotate_left
   ·rw [if_neg c6] at H
    exact absurd H (by simp)
   rw [if_pos c6] at H
   have LMc6 := bA c6
   clear c6
   obtain ⟨y358, hy358⟩ : ∃ y_ : List Int, y_ = (x3_1 ++ [wrap64 (Go.bits .and .u64 (ji5) 1)]) := ⟨_, rfl⟩
   replace H : (apogeeref01_bits.l0 k1 y358 (wrap64 (x4_1 + 1)) a0_0 a0_1) = some r := by first | (rw [hy358]; with_reducible exact H) | (have H2_ := (Option.bind_some _ _).symm.trans H; rw [hy358]; with_reducible exact H2_) | (have H2_ := (Option.bind_some _ _).symm.trans H; with_reducible exact H2_) | with_reducible exact H | (rw [hy358]; exact H) | exact H
   have Ny358 := bA hy358
   clear hy358
   have H' := bA H
   clear H
   obtain ⟨hcz7_0, hcz7_1, hfz7_0, hfz7_1⟩ := bc2 BK357
   go_wp2_with (first | ((with_reducible refine gate_builtin (b := .append) (xs := #[.tmp 10, .tmp 17]) rfl ?_); at_builtin; refine Kd.R_append (Kd.int .i64) (w0 := w) w.heap.size rfl (.tmp 10) (.tmp 17) 122 3 (.int .i64 0) 8 rfl Try.underlying122 info3 rfl (by decide) (by omega) u3 x3_1 (wrap64 (Go.bits .and .u64 (ji5) 1)) [.int .i64 (wrap64 (Go.bits .and .u64 (ji5) 1))] (fun _ => True) (fun _ => False) rfl rfl ?aP (fun _ hk => hk.elim) ?aF ?aO ?aB ?aS ?aL ?_; (case aP => exact rfl); (case aB => exact bX); (case aF => exact (fun _ _ => trivial)); (case aO => exact (bRr HO_3)); (case aS => exact bY); (case aL => have := LMc6.out; omega); intro v359 w8 ho hb hg hat; rw [← Ny358.out] at ho; have HO360 := bA (ho); replace BK357 := bA (blk_grown (g := gb357) (o := .cells #[.int .i64 a0_0, .int .u64 a0_1] 90 (0, 0)) (bP BK357) hg (Kd.R_ne HO_3.out BK357.out (by decide))); replace HB := bA (hb); clear HO_3; clear ho hb hg hat))
   go_roundg k1
   case measure => have := HK1.out; omega
   case rel => exact ⟨(y358), (wrap64 (x4_1 + 1)), bs, H', ⟨by have := HK1.out; omega⟩, ⟨bRr HO360⟩, ⟨by (with_reducible repeat (first | refine blk_drewN ?_ _ | refine blk_drew ?_ | refine blk_alloc ?_ _)); exact BK357.out⟩, ⟨bX⟩⟩
  rw [if_neg c3] at H
  have c3b0 : decide (x4_1 < 64) = false := decide_eq_false c3
  clear c3
  have H' := bA H
  clear H
  go_wp2
  go_loopg [3, 5] k1 (fun kq v3 v5 w' => ∃ (x3_2 : List Int) (x5_2 : Int), v5 = .int .i64 x5_2 ∧ Aside0 (apogeeref01_bits.l1 kq x3_2 x5_2 a0_0 a0_1 = some r) ∧ Aside0 (kq ≤ k1) ∧ Aside0 (Kd.R (Kd.int .i64) 3 w' w.heap.size (fun _ => True) v3 x3_2) ∧ Aside0 (w'.heap[gb357]? = some (.cells #[.int .i64 a0_0, .int .u64 a0_1] 90 (0, 0))) ∧ Aside0 (Below w.heap.size w w'))
  case atStart => exact ⟨(x3_1), (0), bs, H', ⟨Nat.le_refl _⟩, ⟨bRr HO_3⟩, ⟨by (with_reducible repeat (first | refine blk_drewN ?_ _ | refine blk_drew ?_ | refine blk_alloc ?_ _)); exact BK357.out⟩, ⟨bX⟩⟩
  clear H'
  try clear c1
  try clear p2
  try clear c3
  try clear c3b0
  try clear c4
  try clear c4b0
  try clear c4b1
  try clear c6
  try clear p6
  try clear hcz7_0
  try clear hcz7_1
  try clear hfz7_0
  try clear hfz7_1
  try clear p2
  obtain ⟨x3_2, x5_2, rfl, HA, HK2, HO_3, BK357, HB⟩ := hrel
  cases gk with
  | zero => exact absurd HA.out (by simp [apogeeref01_bits.l1])
  | succ k2 =>
   have H := HA.out
   clear HA
   simp only [apogeeref01_bits.l1] at H
   by_cases c9 : x5_2 < 64
   rw [if_pos c9] at H
   have c9b0 : decide (x5_2 < 64) = true := decide_eq_true c9
   clear c9
   by_cases c10 : 0 ≤ x5_2
   rw [if_pos c10] at H
   have c10b0 := eq_true c10
   have c10b1 : decide (0 ≤ x5_2) = true := decide_eq_true c10
   clear c10
   obtain ⟨ji11, hji11⟩ : ∃ j_ : Int, (shr .u64 (IntKind.u64.wrap (a0_0)) x5_2) = j_ := ⟨_, rfl⟩
   replace H : (if x3_2.length < 17592186044416 then (apogeeref01_bits.l1 k2 (x3_2 ++ [wrap64 (Go.bits .and .u64 (ji11) 1)]) (wrap64 (x5_2 + 1)) a0_0 a0_1) else (none)) = some r := by first | (rw [hji11] at H; exact H) | (simp only [hji11] at H ⊢; exact H)
   have hji11_ : ((IntKind.u64.wrap (a0_0)) / 2 ^ min x5_2.toNat 64) = ji11 := hji11
   have hji11z : x5_2 ≤ 64 → ((IntKind.u64.wrap (a0_0)) / 2 ^ x5_2.toNat) = ji11 := shr_small hji11
   by_cases c12 : x3_2.length < 17592186044416
   rw [if_pos c12] at H
   have LMc12 := bA c12
   clear c12
   obtain ⟨y361, hy361⟩ : ∃ y_ : List Int, y_ = (x3_2 ++ [wrap64 (Go.bits .and .u64 (ji11) 1)]) := ⟨_, rfl⟩
   replace H : (apogeeref01_bits.l1 k2 y361 (wrap64 (x5_2 + 1)) a0_0 a0_1) = some r := by first | (rw [hy361]; with_reducible exact H) | (have H2_ := (Option.bind_some _ _).symm.trans H; rw [hy361]; with_reducible exact H2_) | (have H2_ := (Option.bind_some _ _).symm.trans H; with_reducible exact H2_) | with_reducible exact H | (rw [hy361]; exact H) | exact H
   have Ny361 := bA hy361
   clear hy361
   have H' := bA H
   clear H
   obtain ⟨hcz13_0, hcz13_1, hfz13_0, hfz13_1⟩ := bc2 BK357
   rotate_left
   rw [if_neg c12] at H
   exact absurd H (by simp)
   rw [if_neg c10] at H
   exact absurd H (by simp)
   rw [if_neg c9] at H
   have c9b0 : decide (x5_2 < 64) = false := decide_eq_false c9
   clear c9
   obtain rfl := Option.some.inj H
   rotate_left
   all_goals go_wp2_with (first | ((with_reducible refine gate_builtin (b := .append) (xs := #[.tmp 23, .tmp 31]) rfl ?_); at_builtin; refine Kd.R_append (Kd.int .i64) (w0 := w) w.heap.size rfl (.tmp 23) (.tmp 31) 122 3 (.int .i64 0) 8 rfl Try.underlying122 info3 rfl (by decide) (by omega) u3 x3_2 (wrap64 (Go.bits .and .u64 (ji11) 1)) [.int .i64 (wrap64 (Go.bits .and .u64 (ji11) 1))] (fun _ => True) (fun _ => False) rfl rfl ?aP (fun _ hk => hk.elim) ?aF ?aO ?aB ?aS ?aL ?_; (case aP => exact rfl); (case aB => exact bX); (case aF => exact (fun _ _ => trivial)); (case aO => exact (bRr HO_3)); (case aS => exact bY); (case aL => have := LMc12.out; omega); intro v362 wz0 ho hb hg hat; rw [← Ny361.out] at ho; have HO363 := bA (ho); replace BK357 := bA (blk_grown (g := gb357) (o := .cells #[.int .i64 a0_0, .int .u64 a0_1] 90 (0, 0)) (bP BK357) hg (Kd.R_ne HO_3.out BK357.out (by decide))); replace HB := bA (hb); clear HO_3; clear ho hb hg hat))
   ·go_roundg k2
    case measure => have := HK1.out; have := HK2.out; omega
    case rel => exact ⟨(y361), (wrap64 (x5_2 + 1)), bs, H', ⟨by have := HK1.out; have := HK2.out; omega⟩, ⟨bRr HO363⟩, ⟨by (with_reducible repeat (first | refine blk_drewN ?_ _ | refine blk_drew ?_ | refine blk_alloc ?_ _)); exact BK357.out⟩, ⟨bX⟩⟩
   go_ret
   exact ⟨_, by first | rfl | (simp [errW_none, errW_some] <;> rfl) | (simp [*, errW_none, errW_some] <;> rfl), bRr HO_3, by repeat (first | (with_reducible first | exact HB.out | apply below_alloc | apply pw_below_drewN | apply below_drew1 | refine below_set ?_ GE357.out) | exact HB.out)⟩
end Go.Proofs.Ytjmibjmlihmglaa.G
