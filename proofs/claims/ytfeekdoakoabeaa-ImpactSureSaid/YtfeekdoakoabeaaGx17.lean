-- Written by a program of this session out of the translation; Lean checks it.
import Derived.Test.YtfeekdoakoabeaaGx0
namespace Go.Proofs.Ytfeekdoakoabeaa.G
open Go.RowKit Go.Proofs.YtfeekdoakoabeaaW.PrintWords Go.Proofs.YtfeekdoakoabeaaW.PrintLast Go.Proofs.YtfeekdoakoabeaaW.PrintMore
attribute [local go_sem] max2_int min2_int max_two min_two max_three min_three max_four min_four   -- for this text's walks alone
set_option linter.unusedVariables false
set_option linter.unusedSimpArgs false

/-! ### apogeeref10_Right: function 27 -/
def apogeeref10_Right.f (a0_0 : Int) (a0_1 : Int) : Option (Bool) := if a0_0 ≥ (-1099511627776) then (if a0_0 ≤ 1099511627776 then (if a0_1 ≥ (-1099511627776) then (some (decide (a0_1 ≤ 1099511627776))) else (some false)) else (some false)) else (some false)
set_option maxHeartbeats 8000000 in
set_option maxRecDepth 100000 in
theorem apogeeref10_Right.calls (a0_0 : Int) (a0_1 : Int) (r : Bool) (w : World) (h : apogeeref10_Right.f a0_0 a0_1 = some r) :
  Calls Try.prog 27 #[.agg #[.int .i64 a0_0, .int .i64 a0_1]] w fun e w' => e = .returned (.bool r) ∧ Below w.heap.size w w' := by
 have hu28 := Try.underlying28
 have HB := bA (Below.refl w.heap.size w)
 have H : (if a0_0 ≥ (-1099511627776) then (if a0_0 ≤ 1099511627776 then (if a0_1 ≥ (-1099511627776) then (some (decide (a0_1 ≤ 1099511627776))) else (some false)) else (some false)) else (some false)) = some r := h
 clear h
 by_cases c2 : a0_0 ≥ (-1099511627776)
 rw [if_pos c2] at H
 have c2b0 : decide ((-1099511627776) ≤ a0_0) = true := decide_eq_true c2
 clear c2
 by_cases c3 : a0_0 ≤ 1099511627776
 rw [if_pos c3] at H
 have c3b0 : decide (a0_0 ≤ 1099511627776) = true := decide_eq_true c3
 clear c3
 by_cases c4 : a0_1 ≥ (-1099511627776)
 rw [if_pos c4] at H
 have c4b0 : decide ((-1099511627776) ≤ a0_1) = true := decide_eq_true c4
 clear c4
 obtain rfl := Option.some.inj H
 rotate_left
 rw [if_neg c4] at H
 have c4b0 : decide ((-1099511627776) ≤ a0_1) = false := decide_eq_false c4
 clear c4
 obtain rfl := Option.some.inj H
 rotate_left
 rw [if_neg c3] at H
 have c3b0 : decide (a0_0 ≤ 1099511627776) = false := decide_eq_false c3
 clear c3
 obtain rfl := Option.some.inj H
 rotate_left
 rw [if_neg c2] at H
 have c2b0 : decide ((-1099511627776) ≤ a0_0) = false := decide_eq_false c2
 clear c2
 obtain rfl := Option.some.inj H
 rotate_left
 all_goals go_enter Try.func27, Try.ntmps27
 all_goals go_wp2_with (first | ((with_reducible refine gate_dst (N := 1) rfl ?_); refine bE (N := 1) (cs := #[.int .i64 a0_0, .int .i64 a0_1]) (t := 28) ?_; intro gb389 hg wz0 hbox hb; have BK389 := bA (hbox); have GW389 := bA (bZ hg); have GE389 := bA (bZ hg); replace HB := bA (bS hb); clear hb hbox hg; obtain ⟨hz1, hz2, hz3, hz4⟩ := bc2 BK389))
 all_goals (go_ret; exact bF)
/-! ### apogeeref11_next: function 62 -/
def apogeeref11_next.f (l0 : List (S28)) (a1 : Int) : Option (Int × Int) := if (l0.length : Int) = 0 then (none) else (if 0 ≤ (Int.tmod (wrap64 (a1 + 1)) (l0.length : Int)) then (if (Int.tmod (wrap64 (a1 + 1)) (l0.length : Int)) < (l0.length : Int) then (some ((rd_T28 l0 (Int.tmod (wrap64 (a1 + 1)) (l0.length : Int))).f0, (rd_T28 l0 (Int.tmod (wrap64 (a1 + 1)) (l0.length : Int))).f1)) else (none)) else (none))
set_option maxHeartbeats 8000000 in
set_option maxRecDepth 100000 in
theorem apogeeref11_next.calls (A0 : Option Addr) (c0 : Nat) (l0 : List (S28)) (a1 : Int) (r1 : Int) (r2 : Int) (w : World) (hr0 : Kd.C k28 w A0 l0.length l0) (hc0 : l0.length ≤ c0) (h : apogeeref11_next.f l0 a1 = some (r1, r2)) :
  Calls Try.prog 62 #[.slice A0 l0.length c0, .int .i64 a1] w fun e w' => e = .returned (.agg #[.int .i64 r1, .int .i64 r2]) ∧ Below w.heap.size w w' := by
 have hu28 := Try.underlying28
 have HR0 := bA hr0
 have HC0 := bA hc0
 clear hr0 hc0
 have HB := bA (Below.refl w.heap.size w)
 have H : (if (l0.length : Int) = 0 then (none) else (if 0 ≤ (Int.tmod (wrap64 (a1 + 1)) (l0.length : Int)) then (if (Int.tmod (wrap64 (a1 + 1)) (l0.length : Int)) < (l0.length : Int) then (some ((rd_T28 l0 (Int.tmod (wrap64 (a1 + 1)) (l0.length : Int))).f0, (rd_T28 l0 (Int.tmod (wrap64 (a1 + 1)) (l0.length : Int))).f1)) else (none)) else (none))) = some (r1, r2) := h
 clear h
 by_cases c3 : (l0.length : Int) = 0
 ·rw [if_pos c3] at H
  exact absurd H (by simp)
 rw [if_neg c3] at H
 have c3b0 : ((l0.length : Int) == 0) = false := beq_eq_false_iff_ne.mpr c3
 have c3b1 : ((l0.length : Int) != 0) = true := bne_iff_ne.mpr c3
 have c3b2 : ¬ (l0 = []) := fun h_ => c3 (by rw [h_]; rfl)
 obtain ⟨ji4, hji4⟩ : ∃ j_ : Int, (Int.tmod (wrap64 (a1 + 1)) (l0.length : Int)) = j_ := ⟨_, rfl⟩
 replace H : (if 0 ≤ (ji4) then (if (ji4) < (l0.length : Int) then (some ((rd_T28 l0 (ji4)).f0, (rd_T28 l0 (ji4)).f1)) else (none)) else (none)) = some (r1, r2) := by first | (rw [hji4] at H; exact H) | (simp only [hji4] at H ⊢; exact H)
 by_cases c5 : 0 ≤ (ji4)
 rotate_left
 ·rw [if_neg c5] at H
  exact absurd H (by simp)
 rw [if_pos c5] at H
 have c5b0 : decide (0 ≤ (ji4)) = true := decide_eq_true c5
 clear c5
 by_cases c6 : (ji4) < (l0.length : Int)
 rotate_left
 ·rw [if_neg c6] at H
  exact absurd H (by simp)
 rw [if_pos c6] at H
 have c6b0 : decide ((ji4) < (l0.length : Int)) = true := decide_eq_true c6
 clear c6
 simp only [Option.some.injEq, Prod.mk.injEq] at H
 obtain ⟨rfl, rfl⟩ := H
 go_enter Try.func62, Try.ntmps62
 go_wp2_with (first | ((with_reducible refine gate_dst (N := 4) rfl ?_); refine bE (N := 4) (cs := #[.int .i64 0, .int .i64 0]) (t := 28) ?_; intro gb390 hg w7 hbox hb; have BK390 := bA (hbox); have GW390 := bA (bZ hg); have GE390 := bA (bZ hg); replace HB := bA (bS hb); clear hb hbox hg; have p391 : 0 ≤ ((ji4) : Int) := bo; have q391 : (ji4) < (l0.length : Int) := bo; obtain ⟨ad391, e391, hx391_0, hx391_1⟩ := at_T28 HR0.out (ji4) p391 q391; cases e391; replace hx391_0 := bK hx391_0; replace hx391_1 := bK hx391_1; replace p391 := eq_true p391; replace q391 := eq_true q391; obtain ⟨hcz8_0, hcz8_1, hfz8_0, hfz8_1⟩ := bc2 BK390))
 refine bodyPost_ret (results_cell_row rfl _ _ gb390 28 #[.int .i64 ((rd_T28 l0 (ji4)).f0), .int .i64 ((rd_T28 l0 (ji4)).f1)] (0, 0) _ rfl (by (with_reducible repeat (first | refine blk_drewN ?_ _ | refine blk_drew ?_ | refine blk_alloc ?_ _)); refine blk_put (cs := #[.int .i64 ((rd_T28 l0 (ji4)).f0), .int .i64 0]) ?_ 1 _ rfl; (with_reducible repeat (first | refine blk_drewN ?_ _ | refine blk_drew ?_ | refine blk_alloc ?_ _)); refine blk_put (cs := #[.int .i64 0, .int .i64 0]) ?_ 0 _ rfl; (with_reducible repeat (first | refine blk_drewN ?_ _ | refine blk_drew ?_ | refine blk_alloc ?_ _)); exact BK390.out) Try.underlying28 rfl (by kernel_rfl)) rfl ?_
 exact ⟨by first | rfl | (simp [errW_none, errW_some] <;> rfl) | (simp only [← hji4]; first | rfl | (simp [errW_none, errW_some] <;> rfl)) | (simp [*, errW_none, errW_some] <;> rfl), by repeat (first | (with_reducible first | exact HB.out | apply below_alloc | apply pw_below_drewN | apply below_drew1 | refine below_set ?_ GE390.out) | exact HB.out)⟩
/-! ### apogeeref10_short: function 87 -/
def apogeeref10_short.f (a0 : Int) : Option (Bool) := if a0 > (-2147483648) then (some (decide (a0 < 2147483648))) else (some false)
set_option maxHeartbeats 8000000 in
set_option maxRecDepth 100000 in
theorem apogeeref10_short.calls (a0 : Int) (r : Bool) (w : World) (h : apogeeref10_short.f a0 = some r) :
  Calls Try.prog 87 #[.int .i64 a0] w fun e w' => e = .returned (.bool r) ∧ Drawn0 w w' := by
 have H : (if a0 > (-2147483648) then (some (decide (a0 < 2147483648))) else (some false)) = some r := h
 clear h
 by_cases c2 : a0 > (-2147483648)
 rw [if_pos c2] at H
 have c2b0 : decide ((-2147483648) < a0) = true := decide_eq_true c2
 clear c2
 obtain rfl := Option.some.inj H
 rotate_left
 rw [if_neg c2] at H
 have c2b0 : decide ((-2147483648) < a0) = false := decide_eq_false c2
 clear c2
 obtain rfl := Option.some.inj H
 rotate_left
 all_goals go_enter Try.func87, Try.ntmps87
 all_goals go_wp2
 all_goals (go_ret; exact bD)
/-! ### apogeeref01_Of: function 97 -/
def apogeeref01_Of.f (a0 : Int) : Option (Int × Int) := if a0 < 0 then (some ((-1), IntKind.u64.wrap (a0))) else (some (0, IntKind.u64.wrap (a0)))
set_option maxHeartbeats 8000000 in
set_option maxRecDepth 100000 in
theorem apogeeref01_Of.calls (a0 : Int) (r1 : Int) (r2 : Int) (w : World) (h : apogeeref01_Of.f a0 = some (r1, r2)) :
  Calls Try.prog 97 #[.int .i64 a0] w fun e w' => e = .returned (.agg #[.int .i64 r1, .int .u64 r2]) ∧ Below w.heap.size w w' := by
 have hu112 := Try.underlying112
 have HB := bA (Below.refl w.heap.size w)
 have H : (if a0 < 0 then (some ((-1), IntKind.u64.wrap (a0))) else (some (0, IntKind.u64.wrap (a0)))) = some (r1, r2) := h
 clear h
 by_cases c2 : a0 < 0
 rw [if_pos c2] at H
 have c2b0 : decide (a0 < 0) = true := decide_eq_true c2
 clear c2
 simp only [Option.some.injEq, Prod.mk.injEq] at H
 obtain ⟨rfl, rfl⟩ := H
 rotate_left
 rw [if_neg c2] at H
 have c2b0 : decide (a0 < 0) = false := decide_eq_false c2
 clear c2
 simp only [Option.some.injEq, Prod.mk.injEq] at H
 obtain ⟨rfl, rfl⟩ := H
 rotate_left
 all_goals go_enter Try.func97, Try.ntmps97
 all_goals go_wp2_with (first | ((with_reducible refine gate_dst (N := 2) rfl ?_); refine bE (N := 2) (cs := #[.int .i64 0, .int .u64 0]) (t := 112) ?_; intro gb392 hg wz0 hbox hb; have BK392 := bA (hbox); have GW392 := bA (bZ hg); have GE392 := bA (bZ hg); replace HB := bA (bS hb); clear hb hbox hg; obtain ⟨hz1, hz2, hz3, hz4⟩ := bc2 BK392))
 ·refine bodyPost_ret (results_cell_row rfl _ _ gb392 112 #[.int .i64 (-1), .int .u64 (IntKind.u64.wrap (a0))] (0, 0) _ rfl (by (with_reducible repeat (first | refine blk_drewN ?_ _ | refine blk_drew ?_ | refine blk_alloc ?_ _)); refine blk_put (cs := #[.int .i64 (-1), .int .u64 0]) ?_ 1 _ rfl; (with_reducible repeat (first | refine blk_drewN ?_ _ | refine blk_drew ?_ | refine blk_alloc ?_ _)); refine blk_put (cs := #[.int .i64 0, .int .u64 0]) ?_ 0 _ rfl; (with_reducible repeat (first | refine blk_drewN ?_ _ | refine blk_drew ?_ | refine blk_alloc ?_ _)); exact BK392.out) Try.underlying112 rfl (by kernel_rfl)) rfl ?_
  exact bF
 refine bodyPost_ret (results_cell_row rfl _ _ gb392 112 #[.int .i64 0, .int .u64 (IntKind.u64.wrap (a0))] (0, 0) _ rfl (by (with_reducible repeat (first | refine blk_drewN ?_ _ | refine blk_drew ?_ | refine blk_alloc ?_ _)); refine blk_put (cs := #[.int .i64 0, .int .u64 0]) ?_ 1 _ rfl; (with_reducible repeat (first | refine blk_drewN ?_ _ | refine blk_drew ?_ | refine blk_alloc ?_ _)); refine blk_put (cs := #[.int .i64 0, .int .u64 0]) ?_ 0 _ rfl; (with_reducible repeat (first | refine blk_drewN ?_ _ | refine blk_drew ?_ | refine blk_alloc ?_ _)); exact BK392.out) Try.underlying112 rfl (by kernel_rfl)) rfl ?_
 exact bF
/-! ### apogeeref01_bits: function 102 -/
mutual
def apogeeref01_bits.l0 : Nat → List Int → Int → Int → Int → Option (List Int)
 | 0, _, _, _, _ => none
 | k + 1, x3, x4, x394000, x394001 => if x4 < 64 then (if 0 ≤ x4 then (if x3.length < 17592186044416 then (apogeeref01_bits.l0 k (x3 ++ [wrap64 (Go.bits .and .u64 (shr .u64 x394001 x4) 1)]) (wrap64 (x4 + 1)) x394000 x394001) else (none)) else (none)) else (apogeeref01_bits.l1 k x3 0 x394000 x394001)
def apogeeref01_bits.l1 : Nat → List Int → Int → Int → Int → Option (List Int)
 | 0, _, _, _, _ => none
 | k + 1, x3, x5, x394000, x394001 => if x5 < 64 then (if 0 ≤ x5 then (if x3.length < 17592186044416 then (apogeeref01_bits.l1 k (x3 ++ [wrap64 (Go.bits .and .u64 (shr .u64 (IntKind.u64.wrap (x394000)) x5) 1)]) (wrap64 (x5 + 1)) x394000 x394001) else (none)) else (none)) else (some x3)
end
def apogeeref01_bits.f (k : Nat) (a0_0 : Int) (a0_1 : Int) : Option (List Int) := apogeeref01_bits.l0 k ([] : List Int) 0 a0_0 a0_1
theorem apogeeref01_bits.mono_l : ∀ k, (∀ y0 y1 y2 y3, LeO (apogeeref01_bits.l0 k y0 y1 y2 y3) (apogeeref01_bits.l0 (k + 1) y0 y1 y2 y3)) ∧ (∀ y0 y1 y2 y3, LeO (apogeeref01_bits.l1 k y0 y1 y2 y3) (apogeeref01_bits.l1 (k + 1) y0 y1 y2 y3))
 | 0 => ⟨fun _ _ _ _ r h => by simp [apogeeref01_bits.l0] at h, fun _ _ _ _ r h => by simp [apogeeref01_bits.l1] at h⟩
 | k + 1 => by
  obtain ⟨ih0, ih1⟩ := apogeeref01_bits.mono_l k
  refine ⟨?_, ?_⟩
  ·intro y0 y1 y2 y3
   unfold apogeeref01_bits.l0
   exact bMo
  ·intro y0 y1 y2 y3
   unfold apogeeref01_bits.l1
   exact bMo
theorem apogeeref01_bits.mono : ∀ a0 a1 k, LeO (apogeeref01_bits.f k a0 a1) (apogeeref01_bits.f (k + 1) a0 a1) := by
 intro a0 a1 k
 obtain ⟨ih0, ih1⟩ := apogeeref01_bits.mono_l k
 unfold apogeeref01_bits.f
 exact bMo
set_option maxHeartbeats 8000000 in
set_option maxRecDepth 100000 in
theorem apogeeref01_bits.calls (k : Nat) (a0_0 : Int) (a0_1 : Int) (r : List Int) (w : World) (h : apogeeref01_bits.f k a0_0 a0_1 = some r) :
  Calls Try.prog 102 #[.agg #[.int .i64 a0_0, .int .u64 a0_1]] w fun e w' => ∃ v0_ : Value, e = .returned (v0_) ∧ Kd.R (Kd.int .i64) 3 w' w.heap.size (fun _ => True) v0_ r ∧ Below w.heap.size w w' := by
 have hu112 := Try.underlying112
 have HB := bA (Below.refl w.heap.size w)
 have H : (apogeeref01_bits.l0 k ([] : List Int) 0 a0_0 a0_1) = some r := h
 clear h
 have H' := bA H
 clear H
 go_enter Try.func102, Try.ntmps102
 go_wp2_with (first | ((with_reducible refine gate_dst (N := 1) rfl ?_); refine bE (N := 1) (cs := #[.int .i64 a0_0, .int .u64 a0_1]) (t := 112) ?_; intro gb393 hg w2 hbox hb; have BK393 := bA (hbox); have GW393 := bA (bZ hg); have GE393 := bA (bZ hg); replace HB := bA (bS hb); clear hb hbox hg))
 go_loopg [3, 4] k (fun kq v3 v4 w' => ∃ (x3_1 : List Int) (x4_1 : Int), v4 = .int .i64 x4_1 ∧ Aside0 (apogeeref01_bits.l0 kq x3_1 x4_1 a0_0 a0_1 = some r) ∧ Aside0 (kq ≤ k) ∧ Aside0 (Kd.R (Kd.int .i64) 3 w' w.heap.size (fun _ => True) v3 x3_1) ∧ Aside0 (w'.heap[gb393]? = some (.cells #[.int .i64 a0_0, .int .u64 a0_1] 112 (0, 0))) ∧ Aside0 (Below w.heap.size w w'))
 case atStart => exact ⟨(([] : List Int)), (0), bs, H', ⟨Nat.le_refl _⟩, ⟨by first | exact Kd.R_nil _ _ _ _ _ | exact Kd.N_nil _ _ _ _ _ | exact Kd.V_nil _ _ _ _ _ | exact Kd.Q_nil _ _ _ _ _ | exact Kd.S_nil _ _ _ _ _⟩, ⟨by (with_reducible repeat (first | refine blk_drewN ?_ _ | refine blk_drew ?_ | refine blk_alloc ?_ _)); exact BK393.out⟩, ⟨bX⟩⟩
 clear H'
 try clear c1
 try clear p2
 obtain ⟨x3_1, x4_1, rfl, HA, HK1, HO_3, BK393, HB⟩ := hrel
 cases gk with
 | zero => exact absurd HA.out (by simp [apogeeref01_bits.l0])
 | succ k1 =>
  have H := HA.out
  clear HA
  simp only [apogeeref01_bits.l0] at H
  by_cases c3 : x4_1 < 64
  ·rw [if_pos c3] at H
   have c3b0 : decide (x4_1 < 64) = true := decide_eq_true c3
   clear c3
   by_cases c4 : 0 ≤ x4_1
   rotate_left
   ·rw [if_neg c4] at H
    exact absurd H (by simp)
   rw [if_pos c4] at H
   have c4b0 := eq_true c4
   have c4b1 : decide (0 ≤ x4_1) = true := decide_eq_true c4
   clear c4
   obtain ⟨ji5, hji5⟩ : ∃ j_ : Int, (shr .u64 a0_1 x4_1) = j_ := ⟨_, rfl⟩
   replace H : (if x3_1.length < 17592186044416 then (apogeeref01_bits.l0 k1 (x3_1 ++ [wrap64 (Go.bits .and .u64 (ji5) 1)]) (wrap64 (x4_1 + 1)) a0_0 a0_1) else (none)) = some r := by first | (rw [hji5] at H; exact H) | (simp only [hji5] at H ⊢; exact H)
   have hji5_ : (a0_1 / 2 ^ min x4_1.toNat 64) = ji5 := hji5
   have hji5z : x4_1 ≤ 64 → (a0_1 / 2 ^ x4_1.toNat) = ji5 := shr_small hji5
   by_cases c6 : x3_1.length < 17592186044416
   rotate_left
   ·rw [if_neg c6] at H
    exact absurd H (by simp)
   rw [if_pos c6] at H
   have LMc6 := bA c6
   clear c6
   obtain ⟨y394, hy394⟩ : ∃ y_ : List Int, y_ = (x3_1 ++ [wrap64 (Go.bits .and .u64 (ji5) 1)]) := ⟨_, rfl⟩
   replace H : (apogeeref01_bits.l0 k1 y394 (wrap64 (x4_1 + 1)) a0_0 a0_1) = some r := by first | (rw [hy394]; with_reducible exact H) | (have H2_ := (Option.bind_some _ _).symm.trans H; rw [hy394]; with_reducible exact H2_) | (have H2_ := (Option.bind_some _ _).symm.trans H; with_reducible exact H2_) | with_reducible exact H | (rw [hy394]; exact H) | exact H
   have Ny394 := bA hy394
   clear hy394
   have H' := bA H
   clear H
   obtain ⟨hcz7_0, hcz7_1, hfz7_0, hfz7_1⟩ := bc2 BK393
   go_wp2_with (first | ((with_reducible refine gate_builtin (b := .append) (xs := #[.tmp 10, .tmp 17]) rfl ?_); at_builtin; refine Kd.R_append (Kd.int .i64) (w0 := w) w.heap.size rfl (.tmp 10) (.tmp 17) 122 3 (.int .i64 0) 8 rfl Try.underlying122 info3 rfl (by decide) (by omega) u3 x3_1 (wrap64 (Go.bits .and .u64 (ji5) 1)) [.int .i64 (wrap64 (Go.bits .and .u64 (ji5) 1))] (fun _ => True) (fun _ => False) rfl rfl ?aP (fun _ hk => hk.elim) ?aF ?aO ?aB ?aS ?aL ?_; (case aP => exact rfl); (case aB => exact bX); (case aF => exact (fun _ _ => trivial)); (case aO => exact (bRr HO_3)); (case aS => exact bY); (case aL => have := LMc6.out; omega); intro v395 w8 ho hb hg hat; rw [← Ny394.out] at ho; have HO396 := bA (ho); replace BK393 := bA (blk_grown (g := gb393) (o := .cells #[.int .i64 a0_0, .int .u64 a0_1] 112 (0, 0)) (bP BK393) hg (Kd.R_ne HO_3.out BK393.out (by decide))); replace HB := bA (hb); clear HO_3; clear ho hb hg hat))
   go_roundg k1
   case measure => have := HK1.out; omega
   case rel => exact ⟨(y394), (wrap64 (x4_1 + 1)), bs, H', ⟨by have := HK1.out; omega⟩, ⟨bRr HO396⟩, ⟨by (with_reducible repeat (first | refine blk_drewN ?_ _ | refine blk_drew ?_ | refine blk_alloc ?_ _)); exact BK393.out⟩, ⟨bX⟩⟩
  rw [if_neg c3] at H
  have c3b0 : decide (x4_1 < 64) = false := decide_eq_false c3
  clear c3
  have H' := bA H
  clear H
  go_wp2
  go_loopg [3, 5] k1 (fun kq v3 v5 w' => ∃ (x3_2 : List Int) (x5_2 : Int), v5 = .int .i64 x5_2 ∧ Aside0 (apogeeref01_bits.l1 kq x3_2 x5_2 a0_0 a0_1 = some r) ∧ Aside0 (kq ≤ k1) ∧ Aside0 (Kd.R (Kd.int .i64) 3 w' w.heap.size (fun _ => True) v3 x3_2) ∧ Aside0 (w'.heap[gb393]? = some (.cells #[.int .i64 a0_0, .int .u64 a0_1] 112 (0, 0))) ∧ Aside0 (Below w.heap.size w w'))
  case atStart => exact ⟨(x3_1), (0), bs, H', ⟨Nat.le_refl _⟩, ⟨bRr HO_3⟩, ⟨by (with_reducible repeat (first | refine blk_drewN ?_ _ | refine blk_drew ?_ | refine blk_alloc ?_ _)); exact BK393.out⟩, ⟨bX⟩⟩
  clear H'
  try clear c1
  try clear p2
  try clear c3
  try clear c3b0
  try clear c4
  try clear c4b0
  try clear c4b1
  try clear c6
  try clear p6
  try clear hcz7_0
  try clear hcz7_1
  try clear hfz7_0
  try clear hfz7_1
  try clear p2
  obtain ⟨x3_2, x5_2, rfl, HA, HK2, HO_3, BK393, HB⟩ := hrel
  cases gk with
  | zero => exact absurd HA.out (by simp [apogeeref01_bits.l1])
  | succ k2 =>
   have H := HA.out
   clear HA
   simp only [apogeeref01_bits.l1] at H
   by_cases c9 : x5_2 < 64
   rw [if_pos c9] at H
   have c9b0 : decide (x5_2 < 64) = true := decide_eq_true c9
   clear c9
   by_cases c10 : 0 ≤ x5_2
   rw [if_pos c10] at H
   have c10b0 := eq_true c10
   have c10b1 : decide (0 ≤ x5_2) = true := decide_eq_true c10
   clear c10
   obtain ⟨ji11, hji11⟩ : ∃ j_ : Int, (shr .u64 (IntKind.u64.wrap (a0_0)) x5_2) = j_ := ⟨_, rfl⟩
   replace H : (if x3_2.length < 17592186044416 then (apogeeref01_bits.l1 k2 (x3_2 ++ [wrap64 (Go.bits .and .u64 (ji11) 1)]) (wrap64 (x5_2 + 1)) a0_0 a0_1) else (none)) = some r := by first | (rw [hji11] at H; exact H) | (simp only [hji11] at H ⊢; exact H)
   have hji11_ : ((IntKind.u64.wrap (a0_0)) / 2 ^ min x5_2.toNat 64) = ji11 := hji11
   have hji11z : x5_2 ≤ 64 → ((IntKind.u64.wrap (a0_0)) / 2 ^ x5_2.toNat) = ji11 := shr_small hji11
   by_cases c12 : x3_2.length < 17592186044416
   rw [if_pos c12] at H
   have LMc12 := bA c12
   clear c12
   obtain ⟨y397, hy397⟩ : ∃ y_ : List Int, y_ = (x3_2 ++ [wrap64 (Go.bits .and .u64 (ji11) 1)]) := ⟨_, rfl⟩
   replace H : (apogeeref01_bits.l1 k2 y397 (wrap64 (x5_2 + 1)) a0_0 a0_1) = some r := by first | (rw [hy397]; with_reducible exact H) | (have H2_ := (Option.bind_some _ _).symm.trans H; rw [hy397]; with_reducible exact H2_) | (have H2_ := (Option.bind_some _ _).symm.trans H; with_reducible exact H2_) | with_reducible exact H | (rw [hy397]; exact H) | exact H
   have Ny397 := bA hy397
   clear hy397
   have H' := bA H
   clear H
   obtain ⟨hcz13_0, hcz13_1, hfz13_0, hfz13_1⟩ := bc2 BK393
   rotate_left
   rw [if_neg c12] at H
   exact absurd H (by simp)
   rw [if_neg c10] at H
   exact absurd H (by simp)
   rw [if_neg c9] at H
   have c9b0 : decide (x5_2 < 64) = false := decide_eq_false c9
   clear c9
   obtain rfl := Option.some.inj H
   rotate_left
   all_goals go_wp2_with (first | ((with_reducible refine gate_builtin (b := .append) (xs := #[.tmp 23, .tmp 31]) rfl ?_); at_builtin; refine Kd.R_append (Kd.int .i64) (w0 := w) w.heap.size rfl (.tmp 23) (.tmp 31) 122 3 (.int .i64 0) 8 rfl Try.underlying122 info3 rfl (by decide) (by omega) u3 x3_2 (wrap64 (Go.bits .and .u64 (ji11) 1)) [.int .i64 (wrap64 (Go.bits .and .u64 (ji11) 1))] (fun _ => True) (fun _ => False) rfl rfl ?aP (fun _ hk => hk.elim) ?aF ?aO ?aB ?aS ?aL ?_; (case aP => exact rfl); (case aB => exact bX); (case aF => exact (fun _ _ => trivial)); (case aO => exact (bRr HO_3)); (case aS => exact bY); (case aL => have := LMc12.out; omega); intro v398 wz0 ho hb hg hat; rw [← Ny397.out] at ho; have HO399 := bA (ho); replace BK393 := bA (blk_grown (g := gb393) (o := .cells #[.int .i64 a0_0, .int .u64 a0_1] 112 (0, 0)) (bP BK393) hg (Kd.R_ne HO_3.out BK393.out (by decide))); replace HB := bA (hb); clear HO_3; clear ho hb hg hat))
   ·go_roundg k2
    case measure => have := HK1.out; have := HK2.out; omega
    case rel => exact ⟨(y397), (wrap64 (x5_2 + 1)), bs, H', ⟨by have := HK1.out; have := HK2.out; omega⟩, ⟨bRr HO399⟩, ⟨by (with_reducible repeat (first | refine blk_drewN ?_ _ | refine blk_drew ?_ | refine blk_alloc ?_ _)); exact BK393.out⟩, ⟨bX⟩⟩
   go_ret
   exact ⟨_, by first | rfl | (simp [errW_none, errW_some] <;> rfl) | (simp [*, errW_none, errW_some] <;> rfl), bRr HO_3, by repeat (first | (with_reducible first | exact HB.out | apply below_alloc | apply pw_below_drewN | apply below_drew1 | refine below_set ?_ GE393.out) | exact HB.out)⟩
/-! ### apogeeref01_value: function 103 -/
def apogeeref01_value.l0 : Nat → List Int → Int → Int → Int → Int → Option (Int × Int)
 | 0, _, _, _, _, _ => none
 | k + 1, x0, x4, x5, x402000, x402001 => if x5 < 64 then (if 0 ≤ x5 then (if x5 < (x0.length : Int) then (if (rd x0 x5) = 1 then (if 0 ≤ (wrap64 (64 + x5)) then (if (wrap64 (64 + x5)) < (x0.length : Int) then (if (rd x0 (wrap64 (64 + x5))) = 1 then (apogeeref01_value.l0 k x0 (Go.bits .or .u64 x4 (shl .u64 1 x5)) (wrap64 (x5 + 1)) x402000 (Go.bits .or .u64 x402001 (shl .u64 1 x5))) else (apogeeref01_value.l0 k x0 x4 (wrap64 (x5 + 1)) x402000 (Go.bits .or .u64 x402001 (shl .u64 1 x5)))) else (none)) else (none)) else (if 0 ≤ (wrap64 (64 + x5)) then (if (wrap64 (64 + x5)) < (x0.length : Int) then (if (rd x0 (wrap64 (64 + x5))) = 1 then (apogeeref01_value.l0 k x0 (Go.bits .or .u64 x4 (shl .u64 1 x5)) (wrap64 (x5 + 1)) x402000 x402001) else (apogeeref01_value.l0 k x0 x4 (wrap64 (x5 + 1)) x402000 x402001)) else (none)) else (none))) else (none)) else (none)) else (some (wrap64 (x4), x402001))
def apogeeref01_value.f (k : Nat) (l0 : List Int) : Option (Int × Int) := apogeeref01_value.l0 k l0 0 0 0 0
theorem apogeeref01_value.mono_l : ∀ k, (∀ y0 y1 y2 y3 y4, LeO (apogeeref01_value.l0 k y0 y1 y2 y3 y4) (apogeeref01_value.l0 (k + 1) y0 y1 y2 y3 y4))
 | 0 => fun _ _ _ _ _ r h => by simp [apogeeref01_value.l0] at h
 | k + 1 => by
  have ih0 := apogeeref01_value.mono_l k
  ·intro y0 y1 y2 y3 y4
   unfold apogeeref01_value.l0
   exact bMo
theorem apogeeref01_value.mono : ∀ a0 k, LeO (apogeeref01_value.f k a0) (apogeeref01_value.f (k + 1) a0) := by
 intro a0 k
 have ih0 := apogeeref01_value.mono_l k
 unfold apogeeref01_value.f
 exact bMo
set_option maxHeartbeats 8000000 in
set_option maxRecDepth 100000 in
theorem apogeeref01_value.calls (k : Nat) (A0 : Option Addr) (c0 : Nat) (l0 : List Int) (r1 : Int) (r2 : Int) (w : World) (hr0 : Kd.C (Kd.int .i64) w A0 l0.length l0) (hc0 : l0.length ≤ c0) (h : apogeeref01_value.f k l0 = some (r1, r2)) :
  Calls Try.prog 103 #[.slice A0 l0.length c0] w fun e w' => e = .returned (.agg #[.int .i64 r1, .int .u64 r2]) ∧ Below w.heap.size w w' := by
 have hu112 := Try.underlying112
 have HR0 := bA hr0
 have HC0 := bA hc0
 clear hr0 hc0
 have HB := bA (Below.refl w.heap.size w)
 have H : (apogeeref01_value.l0 k l0 0 0 0 0) = some (r1, r2) := h
 clear h
 have H' := bA H
 clear H
 go_enter Try.func103, Try.ntmps103
 go_wp2_with (first | ((with_reducible refine gate_dst (N := 2) rfl ?_); refine bE (N := 2) (cs := #[.int .i64 0, .int .u64 0]) (t := 112) ?_; intro gb400 hg w2 hbox hb; have BK400 := bA (hbox); have GW400 := bA (bZ hg); have GE400 := bA (bZ hg); replace HB := bA (bS hb); clear hb hbox hg) | ((with_reducible refine gate_dst (N := 3) rfl ?_); refine bE (N := 3) (cs := #[.int .i64 0, .int .u64 0]) (t := 112) ?_; intro gb401 hg w3 hbox hb; have BK401 := bA (hbox); have GW401 := bA (bZ hg); have GE401 := bA (bZ hg); have NB400_401 := bA (bL BK400 hg); have NB401_400 := bA (bG BK400 hg); replace BK400 := bA (bB BK400 hb); replace HB := bA (bS hb); clear hb hbox hg; have hnb4 := NB401_400.out; have hnc4 := NB400_401.out; obtain ⟨hcz5_0, hcz5_1, hfz5_0, hfz5_1⟩ := bc2 BK401))
 go_loopg [4, 5] k (fun kq v4 v5 w' => ∃ (x4_1 : Int) (x5_1 : Int) (x402001_1 : Int), v4 = .int .u64 x4_1 ∧ v5 = .int .i64 x5_1 ∧ Aside0 (apogeeref01_value.l0 kq l0 x4_1 x5_1 0 x402001_1 = some (r1, r2)) ∧ Aside0 (kq ≤ k) ∧ Aside0 (w'.heap[gb400]? = some (.cells #[.int .i64 0, .int .u64 0] 112 (0, 0))) ∧ Aside0 (w'.heap[gb401]? = some (.cells #[.int .i64 0, .int .u64 x402001_1] 112 (0, 0))) ∧ Aside0 (Below w.heap.size w w'))
 case atStart => exact ⟨(0), (0), (0), bs, bs, H', ⟨Nat.le_refl _⟩, ⟨by (repeat ((with_reducible repeat (first | refine blk_drewN ?_ _ | refine blk_drew ?_ | refine blk_alloc ?_ _)); refine blk_far ?_ NB400_401.out _)); (with_reducible repeat (first | refine blk_drewN ?_ _ | refine blk_drew ?_ | refine blk_alloc ?_ _)); exact BK400.out⟩, ⟨by (with_reducible repeat (first | refine blk_drewN ?_ _ | refine blk_drew ?_ | refine blk_alloc ?_ _)); refine blk_put (cs := #[.int .i64 0, .int .u64 0]) ?_ 1 _ rfl; (with_reducible repeat (first | refine blk_drewN ?_ _ | refine blk_drew ?_ | refine blk_alloc ?_ _)); refine blk_put (cs := #[.int .i64 0, .int .u64 0]) ?_ 0 _ rfl; (with_reducible repeat (first | refine blk_drewN ?_ _ | refine blk_drew ?_ | refine blk_alloc ?_ _)); exact BK401.out⟩, ⟨bX⟩⟩
 clear H'
 try clear c1
 try clear p2
 try clear c4
 try clear hcz5_0
 try clear hcz5_1
 try clear hfz5_0
 try clear hfz5_1
 obtain ⟨x4_1, x5_1, x402001_1, rfl, rfl, HA, HK1, BK400, BK401, HB⟩ := hrel
 cases gk with
 | zero => exact absurd HA.out (by simp [apogeeref01_value.l0])
 | succ k1 =>
  have H := HA.out
  clear HA
  simp only [apogeeref01_value.l0] at H
  by_cases c6 : x5_1 < 64
  rotate_left
  ·rw [if_neg c6] at H
   have c6b0 : decide (x5_1 < 64) = false := decide_eq_false c6
   clear c6
   simp only [Option.some.injEq, Prod.mk.injEq] at H
   obtain ⟨rfl, rfl⟩ := H
   have hnb27 := NB401_400.out
   have hnc27 := NB400_401.out
   obtain ⟨hcz28_0, hcz28_1, hfz28_0, hfz28_1⟩ := bc2 BK401
   obtain ⟨hcz29_0, hcz29_1, hfz29_0, hfz29_1⟩ := bc2 BK400
   go_wp2
   refine bodyPost_ret (results_cell_row rfl _ _ gb400 112 #[.int .i64 (wrap64 (x4_1)), .int .u64 x402001_1] (0, 0) _ rfl (by (with_reducible repeat (first | refine blk_drewN ?_ _ | refine blk_drew ?_ | refine blk_alloc ?_ _)); refine blk_put (cs := #[.int .i64 (wrap64 (x4_1)), .int .u64 0]) ?_ 1 _ rfl; (with_reducible repeat (first | refine blk_drewN ?_ _ | refine blk_drew ?_ | refine blk_alloc ?_ _)); refine blk_put (cs := #[.int .i64 0, .int .u64 0]) ?_ 0 _ rfl; (with_reducible repeat (first | refine blk_drewN ?_ _ | refine blk_drew ?_ | refine blk_alloc ?_ _)); refine blk_far ?_ NB400_401.out _; (with_reducible repeat (first | refine blk_drewN ?_ _ | refine blk_drew ?_ | refine blk_alloc ?_ _)); exact BK400.out) Try.underlying112 rfl (by kernel_rfl)) rfl ?_
   exact bF
  rw [if_pos c6] at H
  have c6b0 : decide (x5_1 < 64) = true := decide_eq_true c6
  clear c6
  by_cases c7 : 0 ≤ x5_1
  rotate_left
  ·rw [if_neg c7] at H
   exact absurd H (by simp)
  rw [if_pos c7] at H
  have c7b0 : decide (0 ≤ x5_1) = true := decide_eq_true c7
  clear c7
  by_cases c8 : x5_1 < (l0.length : Int)
  rotate_left
  ·rw [if_neg c8] at H
   exact absurd H (by simp)
  rw [if_pos c8] at H
  have c8b0 : decide (x5_1 < (l0.length : Int)) = true := decide_eq_true c8
  clear c8
  by_cases c9 : (rd l0 x5_1) = 1
  rotate_left
  ·rw [if_neg c9] at H
   have c9b0 : ((rd l0 x5_1) == 1) = false := beq_eq_false_iff_ne.mpr c9
   have c9b1 : ((rd l0 x5_1) != 1) = true := bne_iff_ne.mpr c9
   obtain ⟨ji21, hji21⟩ : ∃ j_ : Int, (wrap64 (64 + x5_1)) = j_ := ⟨_, rfl⟩
   replace H : (if 0 ≤ (ji21) then (if (ji21) < (l0.length : Int) then (if (rd l0 (ji21)) = 1 then (apogeeref01_value.l0 k1 l0 (Go.bits .or .u64 x4_1 (shl .u64 1 x5_1)) (wrap64 (x5_1 + 1)) 0 x402001_1) else (apogeeref01_value.l0 k1 l0 x4_1 (wrap64 (x5_1 + 1)) 0 x402001_1)) else (none)) else (none)) = some (r1, r2) := by first | (rw [hji21] at H; exact H) | (simp only [hji21] at H ⊢; exact H)
   have hji21w : (IntKind.i64.wrap (64 + x5_1)) = ji21 := (i64_w _).trans hji21
   by_cases c22 : 0 ≤ (ji21)
   rw [if_pos c22] at H
   have c22b0 : decide (0 ≤ (ji21)) = true := decide_eq_true c22
   clear c22
   by_cases c23 : (ji21) < (l0.length : Int)
   rw [if_pos c23] at H
   have c23b0 : decide ((ji21) < (l0.length : Int)) = true := decide_eq_true c23
   clear c23
   by_cases c24 : (rd l0 (ji21)) = 1
   rw [if_pos c24] at H
   have c24b0 : ((rd l0 (ji21)) == 1) = true := beq_iff_eq.mpr c24
   have c24b1 : ((rd l0 (ji21)) != 1) = false := bne_eq_false_iff_eq.mpr c24
   clear c24
   have c25b0 := eq_true (bo : 0 ≤ x5_1)
   obtain ⟨ji26, hji26⟩ : ∃ j_ : Int, (shl .u64 1 x5_1) = j_ := ⟨_, rfl⟩
   replace H : (apogeeref01_value.l0 k1 l0 (Go.bits .or .u64 x4_1 (ji26)) (wrap64 (x5_1 + 1)) 0 x402001_1) = some (r1, r2) := by first | (rw [hji26] at H; exact H) | (simp only [hji26] at H ⊢; exact H)
   have hji26_ : (IntKind.u64.wrap (1 * 2 ^ min x5_1.toNat 64)) = ji26 := hji26
   have hji26z : x5_1 ≤ 64 → (IntKind.u64.wrap (1 * 2 ^ x5_1.toNat)) = ji26 := shl_small hji26
   have hji26u : (IntKind.u64.wrap (2 ^ min x5_1.toNat 64)) = ji26 := by have h_ := hji26_; rw [Int.one_mul] at h_; exact h_
   have hji26v : x5_1 ≤ 64 → (IntKind.u64.wrap (2 ^ x5_1.toNat)) = ji26 := fun hle_ => by have h_ := hji26z hle_; rw [Int.one_mul] at h_; exact h_
   have H' := bA H
   clear H
   have p402 : 0 ≤ (x5_1 : Int) := bo
   have q402 : x5_1 < (l0.length : Int) := bo
   obtain ⟨ad402, e402, hx402_0⟩ := Kd.at_int HR0.out x5_1 p402 q402
   cases e402
   replace hx402_0 := bK hx402_0
   replace p402 := eq_true p402
   replace q402 := eq_true q402
   have p404 : 0 ≤ ((ji21) : Int) := bo
   have q404 : (ji21) < (l0.length : Int) := bo
   obtain ⟨ad404, e404, hx404_0⟩ := Kd.at_int HR0.out (ji21) p404 q404
   obtain rfl : ad402 = ad404 := (by injection e404)
   replace hx404_0 := bK hx404_0
   replace p404 := eq_true p404
   replace q404 := eq_true q404
   rotate_left
   rw [if_neg c24] at H
   have c24b0 : ((rd l0 (ji21)) == 1) = false := beq_eq_false_iff_ne.mpr c24
   have c24b1 : ((rd l0 (ji21)) != 1) = true := bne_iff_ne.mpr c24
   have H' := bA H
   clear H
   have p402 : 0 ≤ (x5_1 : Int) := bo
   have q402 : x5_1 < (l0.length : Int) := bo
   obtain ⟨ad402, e402, hx402_0⟩ := Kd.at_int HR0.out x5_1 p402 q402
   cases e402
   replace hx402_0 := bK hx402_0
   replace p402 := eq_true p402
   replace q402 := eq_true q402
   have p404 : 0 ≤ ((ji21) : Int) := bo
   have q404 : (ji21) < (l0.length : Int) := bo
   obtain ⟨ad404, e404, hx404_0⟩ := Kd.at_int HR0.out (ji21) p404 q404
   obtain rfl : ad402 = ad404 := (by injection e404)
   replace hx404_0 := bK hx404_0
   replace p404 := eq_true p404
   replace q404 := eq_true q404
   rotate_left
   rw [if_neg c23] at H
   exact absurd H (by simp)
   rw [if_neg c22] at H
   exact absurd H (by simp)
   all_goals go_wp2
   ·go_roundg k1
    case measure => have := HK1.out; omega
    case rel => exact ⟨(Go.bits .or .u64 x4_1 (ji26)), (wrap64 (x5_1 + 1)), (x402001_1), (by first | rfl | (simp; done) | (simp only [← hji26] <;> (first | rfl | simp)) | (simp [*]; done)), bs, H', ⟨by have := HK1.out; omega⟩, ⟨by (with_reducible repeat (first | refine blk_drewN ?_ _ | refine blk_drew ?_ | refine blk_alloc ?_ _)); exact BK400.out⟩, ⟨by (with_reducible repeat (first | refine blk_drewN ?_ _ | refine blk_drew ?_ | refine blk_alloc ?_ _)); exact BK401.out⟩, ⟨bX⟩⟩
   go_roundg k1
   case measure => have := HK1.out; omega
   case rel => exact ⟨(x4_1), (wrap64 (x5_1 + 1)), (x402001_1), bs, bs, H', ⟨by have := HK1.out; omega⟩, ⟨by (with_reducible repeat (first | refine blk_drewN ?_ _ | refine blk_drew ?_ | refine blk_alloc ?_ _)); exact BK400.out⟩, ⟨by (with_reducible repeat (first | refine blk_drewN ?_ _ | refine blk_drew ?_ | refine blk_alloc ?_ _)); exact BK401.out⟩, ⟨bX⟩⟩
  rw [if_pos c9] at H
  have c9b0 : ((rd l0 x5_1) == 1) = true := beq_iff_eq.mpr c9
  have c9b1 : ((rd l0 x5_1) != 1) = false := bne_eq_false_iff_eq.mpr c9
  clear c9
  have c10b0 := eq_true (bo : 0 ≤ x5_1)
  obtain ⟨ji11, hji11⟩ : ∃ j_ : Int, (shl .u64 1 x5_1) = j_ := ⟨_, rfl⟩
  replace H : (if 0 ≤ (wrap64 (64 + x5_1)) then (if (wrap64 (64 + x5_1)) < (l0.length : Int) then (if (rd l0 (wrap64 (64 + x5_1))) = 1 then (apogeeref01_value.l0 k1 l0 (Go.bits .or .u64 x4_1 (ji11)) (wrap64 (x5_1 + 1)) 0 (Go.bits .or .u64 x402001_1 (ji11))) else (apogeeref01_value.l0 k1 l0 x4_1 (wrap64 (x5_1 + 1)) 0 (Go.bits .or .u64 x402001_1 (ji11)))) else (none)) else (none)) = some (r1, r2) := by first | (rw [hji11] at H; exact H) | (simp only [hji11] at H ⊢; exact H)
  have hji11_ : (IntKind.u64.wrap (1 * 2 ^ min x5_1.toNat 64)) = ji11 := hji11
  have hji11z : x5_1 ≤ 64 → (IntKind.u64.wrap (1 * 2 ^ x5_1.toNat)) = ji11 := shl_small hji11
  have hji11u : (IntKind.u64.wrap (2 ^ min x5_1.toNat 64)) = ji11 := by have h_ := hji11_; rw [Int.one_mul] at h_; exact h_
  have hji11v : x5_1 ≤ 64 → (IntKind.u64.wrap (2 ^ x5_1.toNat)) = ji11 := fun hle_ => by have h_ := hji11z hle_; rw [Int.one_mul] at h_; exact h_
  obtain ⟨ji12, hji12⟩ : ∃ j_ : Int, (wrap64 (64 + x5_1)) = j_ := ⟨_, rfl⟩
  replace H : (if 0 ≤ (ji12) then (if (ji12) < (l0.length : Int) then (if (rd l0 (ji12)) = 1 then (apogeeref01_value.l0 k1 l0 (Go.bits .or .u64 x4_1 (ji11)) (wrap64 (x5_1 + 1)) 0 (Go.bits .or .u64 x402001_1 (ji11))) else (apogeeref01_value.l0 k1 l0 x4_1 (wrap64 (x5_1 + 1)) 0 (Go.bits .or .u64 x402001_1 (ji11)))) else (none)) else (none)) = some (r1, r2) := by first | (rw [hji12] at H; exact H) | (simp only [hji12] at H ⊢; exact H)
  have hji12w : (IntKind.i64.wrap (64 + x5_1)) = ji12 := (i64_w _).trans hji12
  by_cases c13 : 0 ≤ (ji12)
  rotate_left
  ·rw [if_neg c13] at H
   exact absurd H (by simp)
  rw [if_pos c13] at H
  have c13b0 : decide (0 ≤ (ji12)) = true := decide_eq_true c13
  clear c13
  by_cases c14 : (ji12) < (l0.length : Int)
  rotate_left
  ·rw [if_neg c14] at H
   exact absurd H (by simp)
  rw [if_pos c14] at H
  have c14b0 : decide ((ji12) < (l0.length : Int)) = true := decide_eq_true c14
  clear c14
  by_cases c15 : (rd l0 (ji12)) = 1
  ·rw [if_pos c15] at H
   have c15b0 : ((rd l0 (ji12)) == 1) = true := beq_iff_eq.mpr c15
   have c15b1 : ((rd l0 (ji12)) != 1) = false := bne_eq_false_iff_eq.mpr c15
   clear c15
   have c16b0 := eq_true (bo : 0 ≤ x5_1)
   have H' := bA H
   clear H
   have p402 : 0 ≤ (x5_1 : Int) := bo
   have q402 : x5_1 < (l0.length : Int) := bo
   obtain ⟨ad402, e402, hx402_0⟩ := Kd.at_int HR0.out x5_1 p402 q402
   cases e402
   replace hx402_0 := bK hx402_0
   replace p402 := eq_true p402
   replace q402 := eq_true q402
   try go_wp2
   replace BK400 := bA (blk_drew BK400.out)
   replace BK401 := bA (blk_drew BK401.out)
   replace HB := bA (below_drew1 HB.out)
   refine start_ (n := 7) (S := fun w' => w'.cell? ⟨gb401, 0, none⟩ = some (.int .i64 0) ∧ w'.cell? ⟨gb401, 1, none⟩ = some (.int .u64 x402001_1)) (ds := [6]) #[false, false, false, false, false, false, false] (by kernel_rfl) rfl rfl ⟨bq BK401 0, bq BK401 1⟩ (fun hHeld => ?_)
   generalize wr.drew = w17 at BK400 BK401 HB hHeld ⊢
   refine pure_ (i := 0) (N := some 16) (v := ?_) (a' := ?_) #[true, false, false, false, false, false, false] rfl rfl (by kernel_rfl) (fun _ _ _ h => h) (Or.inl ⟨by rfl, ?_⟩) ?_ ?_
   rotate_left
   ·intro w'
    go_simp
    with_reducible rfl
   rotate_left
   ·simp only [Act.put, List.setIfInBounds_toArray, List.set_cons_zero, List.set_cons_succ, i64_w, i32_w]
    rfl
   refine pure_ (i := 2) (N := some 18) (v := ?_) (a' := ?_) #[true, false, true, false, false, false, false] rfl rfl (by kernel_rfl) (fun _ _ _ h => h) (Or.inl ⟨by rfl, ?_⟩) ?_ ?_
   rotate_left
   ·intro w'
    go_simp
    with_reducible rfl
   rotate_left
   ·simp only [Act.put, List.setIfInBounds_toArray, List.set_cons_zero, List.set_cons_succ, i64_w, i32_w]
    rfl
   refine pure_ (i := 3) (N := some 19) (v := ?_) (a' := ?_) #[true, false, true, true, false, false, false] rfl rfl (by kernel_rfl) (fun _ _ _ h => h) (Or.inl ⟨by rfl, ?_⟩) ?_ ?_
   rotate_left
   ·intro w'
    go_simp
    with_reducible rfl
   rotate_left
   ·simp only [Act.put, List.setIfInBounds_toArray, List.set_cons_zero, List.set_cons_succ, i64_w, i32_w]
    rfl
   refine take_ (i := 1) (N := some 17) (v := ?_) (a' := ?_) #[true, true, true, true, false, false, false] rfl rfl (by kernel_rfl) (fun _ _ _ h => h) (Or.inl ⟨by rfl, ?_⟩) hHeld ?_ ?_
   rotate_left
   ·rintro w' ⟨s0, s1⟩
    go_simp
    with_reducible rfl
   rotate_left
   ·simp only [Act.put, List.setIfInBounds_toArray, List.set_cons_zero, List.set_cons_succ, i64_w, i32_w]
    rfl
   refine pure_ (i := 4) (N := some 20) (v := ?_) (a' := ?_) #[true, true, true, true, true, false, false] rfl rfl (by kernel_rfl) (fun _ _ _ h => h) (Or.inl ⟨by rfl, ?_⟩) ?_ ?_
   rotate_left
   ·intro w'
    go_simp
    with_reducible rfl
   rotate_left
   ·simp only [Act.put, List.setIfInBounds_toArray, List.set_cons_zero, List.set_cons_succ, i64_w, i32_w]
    rfl
   refine pure_ (i := 5) (N := some 21) (v := ?_) (a' := ?_) #[true, true, true, true, true, true, false] rfl rfl (by kernel_rfl) (fun _ _ _ h => h) (Or.inl ⟨by rfl, ?_⟩) ?_ ?_
   rotate_left
   ·intro w'
    go_simp
    with_reducible rfl
   rotate_left
   ·simp only [Act.put, List.setIfInBounds_toArray, List.set_cons_zero, List.set_cons_succ, i64_w, i32_w]
    rfl
   refine last_ (i := 6) (N := none) #[true, true, true, true, true, true, true] rfl rfl (by kernel_rfl) (by decide) (fun K hK => ?_)
   have hs18 : w17.cell? ⟨gb401, 1, none⟩ = some (.int .u64 x402001_1) := bq BK401 1
   have hfs18 := blk_frozen BK401.out 1
   have hns18_0 := NB400_401.out
   have hms18_0 := NB401_400.out
   refine skip_ (w1 := ?_) (by rfl) rfl ?_ ?_
   rotate_left
   ·go_simp
    rfl
   refine hK.out _ _ ?_
   clear hK K
   refine done_ (by kernel_rfl) ?_
   have p403 : 0 ≤ ((ji12) : Int) := bo
   have q403 : (ji12) < (l0.length : Int) := bo
   obtain ⟨ad403, e403, hx403_0⟩ := Kd.at_int HR0.out (ji12) p403 q403
   obtain rfl : ad402 = ad403 := (by injection e403)
   have hn403_0 : ad402.block ≠ gb401 := Nat.ne_of_lt (Nat.lt_of_lt_of_le (by have := World.block_lt_of_cell? _ _ hx403_0; first | rwa [add_block] at this | exact this) GW401.out)
   replace hx403_0 := bK hx403_0
   replace hx403_0 := (cell_far (p := ⟨gb401, 1, none⟩) (by first | (rw [add_block]; exact hn403_0) | (show (Addr.add _ _).block ≠ _; rw [add_block]; exact hn403_0) | exact hn403_0) (.int .u64 (Go.bits .or .u64 x402001_1 (ji11)))).trans hx403_0
   clear hn403_0
   replace p403 := eq_true p403
   replace q403 := eq_true q403
   try go_wp2
   go_roundg k1
   case measure => have := HK1.out; omega
   case rel => exact ⟨(Go.bits .or .u64 x4_1 (ji11)), (wrap64 (x5_1 + 1)), (Go.bits .or .u64 x402001_1 (ji11)), (by first | rfl | (simp; done) | (simp only [← hji11] <;> (first | rfl | simp)) | (simp [*]; done)), bs, H', ⟨by have := HK1.out; omega⟩, ⟨by (with_reducible repeat (first | refine blk_drewN ?_ _ | refine blk_drew ?_ | refine blk_alloc ?_ _)); refine blk_far ?_ NB400_401.out _; (with_reducible repeat (first | refine blk_drewN ?_ _ | refine blk_drew ?_ | refine blk_alloc ?_ _)); exact BK400.out⟩, ⟨by (with_reducible repeat (first | refine blk_drewN ?_ _ | refine blk_drew ?_ | refine blk_alloc ?_ _)); refine blk_put (cs := #[.int .i64 0, .int .u64 x402001_1]) ?_ 1 _ rfl; (with_reducible repeat (first | refine blk_drewN ?_ _ | refine blk_drew ?_ | refine blk_alloc ?_ _)); exact BK401.out⟩, ⟨bX⟩⟩
  rw [if_neg c15] at H
  have c15b0 : ((rd l0 (ji12)) == 1) = false := beq_eq_false_iff_ne.mpr c15
  have c15b1 : ((rd l0 (ji12)) != 1) = true := bne_iff_ne.mpr c15
  have H' := bA H
  clear H
  have p402 : 0 ≤ (x5_1 : Int) := bo
  have q402 : x5_1 < (l0.length : Int) := bo
  obtain ⟨ad402, e402, hx402_0⟩ := Kd.at_int HR0.out x5_1 p402 q402
  cases e402
  replace hx402_0 := bK hx402_0
  replace p402 := eq_true p402
  replace q402 := eq_true q402
  try go_wp2
  replace BK400 := bA (blk_drew BK400.out)
  replace BK401 := bA (blk_drew BK401.out)
  replace HB := bA (below_drew1 HB.out)
  refine start_ (n := 7) (S := fun w' => w'.cell? ⟨gb401, 0, none⟩ = some (.int .i64 0) ∧ w'.cell? ⟨gb401, 1, none⟩ = some (.int .u64 x402001_1)) (ds := [6]) #[false, false, false, false, false, false, false] (by kernel_rfl) rfl rfl ⟨bq BK401 0, bq BK401 1⟩ (fun hHeld => ?_)
  generalize wr.drew = w19 at BK400 BK401 HB hHeld ⊢
  refine pure_ (i := 0) (N := some 16) (v := ?_) (a' := ?_) #[true, false, false, false, false, false, false] rfl rfl (by kernel_rfl) (fun _ _ _ h => h) (Or.inl ⟨by rfl, ?_⟩) ?_ ?_
  rotate_left
  ·intro w'
   go_simp
   with_reducible rfl
  rotate_left
  ·simp only [Act.put, List.setIfInBounds_toArray, List.set_cons_zero, List.set_cons_succ, i64_w, i32_w]
   rfl
  refine pure_ (i := 2) (N := some 18) (v := ?_) (a' := ?_) #[true, false, true, false, false, false, false] rfl rfl (by kernel_rfl) (fun _ _ _ h => h) (Or.inl ⟨by rfl, ?_⟩) ?_ ?_
  rotate_left
  ·intro w'
   go_simp
   with_reducible rfl
  rotate_left
  ·simp only [Act.put, List.setIfInBounds_toArray, List.set_cons_zero, List.set_cons_succ, i64_w, i32_w]
   rfl
  refine pure_ (i := 3) (N := some 19) (v := ?_) (a' := ?_) #[true, false, true, true, false, false, false] rfl rfl (by kernel_rfl) (fun _ _ _ h => h) (Or.inl ⟨by rfl, ?_⟩) ?_ ?_
  rotate_left
  ·intro w'
   go_simp
   with_reducible rfl
  rotate_left
  ·simp only [Act.put, List.setIfInBounds_toArray, List.set_cons_zero, List.set_cons_succ, i64_w, i32_w]
   rfl
  refine take_ (i := 1) (N := some 17) (v := ?_) (a' := ?_) #[true, true, true, true, false, false, false] rfl rfl (by kernel_rfl) (fun _ _ _ h => h) (Or.inl ⟨by rfl, ?_⟩) hHeld ?_ ?_
  rotate_left
  ·rintro w' ⟨s0, s1⟩
   go_simp
   with_reducible rfl
  rotate_left
  ·simp only [Act.put, List.setIfInBounds_toArray, List.set_cons_zero, List.set_cons_succ, i64_w, i32_w]
   rfl
  refine pure_ (i := 4) (N := some 20) (v := ?_) (a' := ?_) #[true, true, true, true, true, false, false] rfl rfl (by kernel_rfl) (fun _ _ _ h => h) (Or.inl ⟨by rfl, ?_⟩) ?_ ?_
  rotate_left
  ·intro w'
   go_simp
   with_reducible rfl
  rotate_left
  ·simp only [Act.put, List.setIfInBounds_toArray, List.set_cons_zero, List.set_cons_succ, i64_w, i32_w]
   rfl
  refine pure_ (i := 5) (N := some 21) (v := ?_) (a' := ?_) #[true, true, true, true, true, true, false] rfl rfl (by kernel_rfl) (fun _ _ _ h => h) (Or.inl ⟨by rfl, ?_⟩) ?_ ?_
  rotate_left
  ·intro w'
   go_simp
   with_reducible rfl
  rotate_left
  ·simp only [Act.put, List.setIfInBounds_toArray, List.set_cons_zero, List.set_cons_succ, i64_w, i32_w]
   rfl
  refine last_ (i := 6) (N := none) #[true, true, true, true, true, true, true] rfl rfl (by kernel_rfl) (by decide) (fun K hK => ?_)
  have hs20 : w19.cell? ⟨gb401, 1, none⟩ = some (.int .u64 x402001_1) := bq BK401 1
  have hfs20 := blk_frozen BK401.out 1
  have hns20_0 := NB400_401.out
  have hms20_0 := NB401_400.out
  refine skip_ (w1 := ?_) (by rfl) rfl ?_ ?_
  rotate_left
  ·go_simp
   rfl
  refine hK.out _ _ ?_
  clear hK K
  refine done_ (by kernel_rfl) ?_
  have p403 : 0 ≤ ((ji12) : Int) := bo
  have q403 : (ji12) < (l0.length : Int) := bo
  obtain ⟨ad403, e403, hx403_0⟩ := Kd.at_int HR0.out (ji12) p403 q403
  obtain rfl : ad402 = ad403 := (by injection e403)
  have hn403_0 : ad402.block ≠ gb401 := Nat.ne_of_lt (Nat.lt_of_lt_of_le (by have := World.block_lt_of_cell? _ _ hx403_0; first | rwa [add_block] at this | exact this) GW401.out)
  replace hx403_0 := bK hx403_0
  replace hx403_0 := (cell_far (p := ⟨gb401, 1, none⟩) (by first | (rw [add_block]; exact hn403_0) | (show (Addr.add _ _).block ≠ _; rw [add_block]; exact hn403_0) | exact hn403_0) (.int .u64 (Go.bits .or .u64 x402001_1 (ji11)))).trans hx403_0
  clear hn403_0
  replace p403 := eq_true p403
  replace q403 := eq_true q403
  try go_wp2
  go_roundg k1
  case measure => have := HK1.out; omega
  case rel => exact ⟨(x4_1), (wrap64 (x5_1 + 1)), (Go.bits .or .u64 x402001_1 (ji11)), bs, bs, H', ⟨by have := HK1.out; omega⟩, ⟨by (with_reducible repeat (first | refine blk_drewN ?_ _ | refine blk_drew ?_ | refine blk_alloc ?_ _)); refine blk_far ?_ NB400_401.out _; (with_reducible repeat (first | refine blk_drewN ?_ _ | refine blk_drew ?_ | refine blk_alloc ?_ _)); exact BK400.out⟩, ⟨by (with_reducible repeat (first | refine blk_drewN ?_ _ | refine blk_drew ?_ | refine blk_alloc ?_ _)); refine blk_put (cs := #[.int .i64 0, .int .u64 x402001_1]) ?_ 1 _ rfl; (with_reducible repeat (first | refine blk_drewN ?_ _ | refine blk_drew ?_ | refine blk_alloc ?_ _)); exact BK401.out⟩, ⟨bX⟩⟩
end Go.Proofs.Ytfeekdoakoabeaa.G
