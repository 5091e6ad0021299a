-- Written by a program of this session out of the translation; Lean checks it.
import Derived.Test.YtjmibjmlihmglaaGx0
namespace Go.Proofs.Ytjmibjmlihmglaa.G
open Go.RowKit Go.Proofs.YtjmibjmlihmglaaW.PrintWords Go.Proofs.YtjmibjmlihmglaaW.PrintLast Go.Proofs.YtjmibjmlihmglaaW.PrintMore
attribute [local go_sem] max2_int min2_int max_two min_two max_three min_three max_four min_four   -- for this text's walks alone
set_option linter.unusedVariables false
set_option linter.unusedSimpArgs false

/-! ### apogeeref01_bits: function 118 -/
mutual
def apogeeref01_bits.l0 : Nat → List Int → Int → Int → Int → Option (List Int)
 | 0, _, _, _, _ => none
 | k + 1, x3, x4, x352000, x352001 => if x4 < 64 then (if 0 ≤ x4 then (if x3.length < 17592186044416 then (apogeeref01_bits.l0 k (x3 ++ [wrap64 (Go.bits .and .u64 (shr .u64 x352001 x4) 1)]) (wrap64 (x4 + 1)) x352000 x352001) else (none)) else (none)) else (apogeeref01_bits.l1 k x3 0 x352000 x352001)
def apogeeref01_bits.l1 : Nat → List Int → Int → Int → Int → Option (List Int)
 | 0, _, _, _, _ => none
 | k + 1, x3, x5, x352000, x352001 => if x5 < 64 then (if 0 ≤ x5 then (if x3.length < 17592186044416 then (apogeeref01_bits.l1 k (x3 ++ [wrap64 (Go.bits .and .u64 (shr .u64 (IntKind.u64.wrap (x352000)) x5) 1)]) (wrap64 (x5 + 1)) x352000 x352001) else (none)) else (none)) else (some x3)
end
def apogeeref01_bits.f (k : Nat) (a0_0 : Int) (a0_1 : Int) : Option (List Int) := apogeeref01_bits.l0 k ([] : List Int) 0 a0_0 a0_1
theorem apogeeref01_bits.mono_l : ∀ k, (∀ y0 y1 y2 y3, LeO (apogeeref01_bits.l0 k y0 y1 y2 y3) (apogeeref01_bits.l0 (k + 1) y0 y1 y2 y3)) ∧ (∀ y0 y1 y2 y3, LeO (apogeeref01_bits.l1 k y0 y1 y2 y3) (apogeeref01_bits.l1 (k + 1) y0 y1 y2 y3))
 | 0 => ⟨fun _ _ _ _ r h => by simp [apogeeref01_bits.l0] at h, fun _ _ _ _ r h => by simp [apogeeref01_bits.l1] at h⟩
 | k + 1 => by
  obtain ⟨ih0, ih1⟩ := apogeeref01_bits.mono_l k
  refine ⟨?_, ?_⟩
  ·intro y0 y1 y2 y3
   unfold apogeeref01_bits.l0
   repeat' first
   | (with_reducible exact ih0 _ _ _ _)
   | (with_reducible exact ih1 _ _ _ _)
   | (with_reducible exact LeO.refl _)
   | (with_reducible exact LeO.none _)
   | (with_reducible refine LeO.ite ?_ ?_)
   | (with_reducible refine LeO.bind ?_ (fun _ => ?_))
   | exact ih0 _ _ _ _
   | exact ih1 _ _ _ _
   | exact LeO.none _
   | refine LeO.ite ?_ ?_
   | refine LeO.bind ?_ (fun _ => ?_)
  ·intro y0 y1 y2 y3
   unfold apogeeref01_bits.l1
   repeat' first
   | (with_reducible exact ih0 _ _ _ _)
   | (with_reducible exact ih1 _ _ _ _)
   | (with_reducible exact LeO.refl _)
   | (with_reducible exact LeO.none _)
   | (with_reducible refine LeO.ite ?_ ?_)
   | (with_reducible refine LeO.bind ?_ (fun _ => ?_))
   | exact ih0 _ _ _ _
   | exact ih1 _ _ _ _
   | exact LeO.none _
   | refine LeO.ite ?_ ?_
   | refine LeO.bind ?_ (fun _ => ?_)
theorem apogeeref01_bits.mono : ∀ a0 a1 k, LeO (apogeeref01_bits.f k a0 a1) (apogeeref01_bits.f (k + 1) a0 a1) := by
 intro a0 a1 k
 obtain ⟨ih0, ih1⟩ := apogeeref01_bits.mono_l k
 unfold apogeeref01_bits.f
 repeat' first
   | (with_reducible exact ih0 _ _ _ _)
   | (with_reducible exact ih1 _ _ _ _)
   | (with_reducible exact LeO.refl _)
   | (with_reducible exact LeO.none _)
   | (with_reducible refine LeO.ite ?_ ?_)
   | (with_reducible refine LeO.bind ?_ (fun _ => ?_))
   | exact ih0 _ _ _ _
   | exact ih1 _ _ _ _
   | exact LeO.none _
   | refine LeO.ite ?_ ?_
   | refine LeO.bind ?_ (fun _ => ?_)
set_option maxHeartbeats 8000000 in
set_option maxRecDepth 100000 in
theorem apogeeref01_bits.calls (k : Nat) (a0_0 : Int) (a0_1 : Int) (r : List Int) (w : World) (h : apogeeref01_bits.f k a0_0 a0_1 = some r) :
  Calls Try.prog 118 #[.agg #[.int .i64 a0_0, .int .u64 a0_1]] w fun e w' => ∃ v0_ : Value, e = .returned (v0_) ∧ Kd.R (Kd.int .i64) 3 w' w.heap.size (fun _ => True) v0_ r ∧ Below w.heap.size w w' := by
 have hu90 := Try.underlying90
 have HB := bA (Below.refl w.heap.size w)
 have H : (apogeeref01_bits.l0 k ([] : List Int) 0 a0_0 a0_1) = some r := h
 clear h
 have H' := bA H
 clear H
 go_enter Try.func118, Try.ntmps118
 go_wp2_with (first | ((with_reducible refine gate_dst (N := 1) rfl ?_); refine bE (N := 1) (cs := #[.int .i64 a0_0, .int .u64 a0_1]) (t := 90) ?_; intro gb351 hg w2 hbox hb; have BK351 := bA (hbox); have GW351 := bA (bZ hg); have GE351 := bA (bZ hg); replace HB := bA (bS hb); clear hb hbox hg))
 go_loopg [3, 4] k (fun kq v3 v4 w' => ∃ (x3_1 : List Int) (x4_1 : Int), v4 = .int .i64 x4_1 ∧ Aside0 (apogeeref01_bits.l0 kq x3_1 x4_1 a0_0 a0_1 = some r) ∧ Aside0 (kq ≤ k) ∧ Aside0 (Kd.R (Kd.int .i64) 3 w' w.heap.size (fun _ => True) v3 x3_1) ∧ Aside0 (w'.heap[gb351]? = some (.cells #[.int .i64 a0_0, .int .u64 a0_1] 90 (0, 0))) ∧ Aside0 (Below w.heap.size w w'))
 case atStart => exact ⟨(([] : List Int)), (0), bs, H', ⟨Nat.le_refl _⟩, ⟨by first | exact Kd.R_nil _ _ _ _ _ | exact Kd.N_nil _ _ _ _ _ | exact Kd.V_nil _ _ _ _ _ | exact Kd.Q_nil _ _ _ _ _ | exact Kd.S_nil _ _ _ _ _⟩, ⟨by (with_reducible repeat (first | refine blk_drewN ?_ _ | refine blk_drew ?_ | refine blk_alloc ?_ _)); exact BK351.out⟩, ⟨bX⟩⟩
 clear H'
 try clear c1
 try clear p2
 obtain ⟨x3_1, x4_1, rfl, HA, HK1, HO_3, BK351, HB⟩ := hrel
 cases gk with
 | zero => exact absurd HA.out (by simp [apogeeref01_bits.l0])
 | succ k1 =>
  have H := HA.out
  clear HA
  simp only [apogeeref01_bits.l0] at H
  by_cases c3 : x4_1 < 64
  ·rw [if_pos c3] at H
   have c3b0 : decide (x4_1 < 64) = true := decide_eq_true c3
   clear c3
   by_cases c4 : 0 ≤ x4_1
   rotate_left
   ·rw [if_neg c4] at H
    exact absurd H (by simp)
   rw [if_pos c4] at H
   have c4b0 := eq_true c4
   have c4b1 : decide (0 ≤ x4_1) = true := decide_eq_true c4
   clear c4
   obtain ⟨ji5, hji5⟩ : ∃ j_ : Int, (shr .u64 a0_1 x4_1) = j_ := ⟨_, rfl⟩
   replace H : (if x3_1.length < 17592186044416 then (apogeeref01_bits.l0 k1 (x3_1 ++ [wrap64 (Go.bits .and .u64 (ji5) 1)]) (wrap64 (x4_1 + 1)) a0_0 a0_1) else (none)) = some r := by first | (rw [hji5] at H; exact H) | (simp only [hji5] at H ⊢; exact H)
   have hji5_ : (a0_1 / 2 ^ min x4_1.toNat 64) = ji5 := hji5
   have hji5z : x4_1 ≤ 64 → (a0_1 / 2 ^ x4_1.toNat) = ji5 := shr_small hji5
   by_cases c6 : x3_1.length < 17592186044416
   rotate_left
   ·rw [if_neg c6] at H
    exact absurd H (by simp)
   rw [if_pos c6] at H
   have LMc6 := bA c6
   clear c6
   obtain ⟨y352, hy352⟩ : ∃ y_ : List Int, y_ = (x3_1 ++ [wrap64 (Go.bits .and .u64 (ji5) 1)]) := ⟨_, rfl⟩
   replace H : (apogeeref01_bits.l0 k1 y352 (wrap64 (x4_1 + 1)) a0_0 a0_1) = some r := by first | (rw [hy352]; with_reducible exact H) | (have H2_ := (Option.bind_some _ _).symm.trans H; rw [hy352]; with_reducible exact H2_) | (have H2_ := (Option.bind_some _ _).symm.trans H; with_reducible exact H2_) | with_reducible exact H | (rw [hy352]; exact H) | exact H
   have Ny352 := bA hy352
   clear hy352
   have H' := bA H
   clear H
   obtain ⟨hcz7_0, hcz7_1, hfz7_0, hfz7_1⟩ := bc2 BK351
   go_wp2_with (first | ((with_reducible refine gate_builtin (b := .append) (xs := #[.tmp 10, .tmp 17]) rfl ?_); at_builtin; refine Kd.R_append (Kd.int .i64) (w0 := w) w.heap.size rfl (.tmp 10) (.tmp 17) 122 3 (.int .i64 0) 8 rfl Try.underlying122 info3 rfl (by decide) (by omega) u3 x3_1 (wrap64 (Go.bits .and .u64 (ji5) 1)) [.int .i64 (wrap64 (Go.bits .and .u64 (ji5) 1))] (fun _ => True) (fun _ => False) rfl rfl ?aP (fun _ hk => hk.elim) ?aF ?aO ?aB ?aS ?aL ?_; (case aP => exact rfl); (case aB => exact bX); (case aF => exact (fun _ _ => trivial)); (case aO => exact (bRr HO_3)); (case aS => exact bY); (case aL => have := LMc6.out; omega); intro v353 w8 ho hb hg hat; rw [← Ny352.out] at ho; have HO354 := bA (ho); replace BK351 := bA (blk_grown (g := gb351) (o := .cells #[.int .i64 a0_0, .int .u64 a0_1] 90 (0, 0)) (bP BK351) hg (Kd.R_ne HO_3.out BK351.out (by decide))); replace HB := bA (hb); clear HO_3; clear ho hb hg hat))
   go_roundg k1
   case measure => have := HK1.out; omega
   case rel => exact ⟨(y352), (wrap64 (x4_1 + 1)), bs, H', ⟨by have := HK1.out; omega⟩, ⟨bRr HO354⟩, ⟨by (with_reducible repeat (first | refine blk_drewN ?_ _ | refine blk_drew ?_ | refine blk_alloc ?_ _)); exact BK351.out⟩, ⟨bX⟩⟩
  rw [if_neg c3] at H
  have c3b0 : decide (x4_1 < 64) = false := decide_eq_false c3
  clear c3
  have H' := bA H
  clear H
  go_wp2
  go_loopg [3, 5] k1 (fun kq v3 v5 w' => ∃ (x3_2 : List Int) (x5_2 : Int), v5 = .int .i64 x5_2 ∧ Aside0 (apogeeref01_bits.l1 kq x3_2 x5_2 a0_0 a0_1 = some r) ∧ Aside0 (kq ≤ k1) ∧ Aside0 (Kd.R (Kd.int .i64) 3 w' w.heap.size (fun _ => True) v3 x3_2) ∧ Aside0 (w'.heap[gb351]? = some (.cells #[.int .i64 a0_0, .int .u64 a0_1] 90 (0, 0))) ∧ Aside0 (Below w.heap.size w w'))
  case atStart => exact ⟨(x3_1), (0), bs, H', ⟨Nat.le_refl _⟩, ⟨bRr HO_3⟩, ⟨by (with_reducible repeat (first | refine blk_drewN ?_ _ | refine blk_drew ?_ | refine blk_alloc ?_ _)); exact BK351.out⟩, ⟨bX⟩⟩
  clear H'
  try clear c1
  try clear p2
  try clear c3
  try clear c3b0
  try clear c4
  try clear c4b0
  try clear c4b1
  try clear c6
  try clear p6
  try clear hcz7_0
  try clear hcz7_1
  try clear hfz7_0
  try clear hfz7_1
  try clear p2
  obtain ⟨x3_2, x5_2, rfl, HA, HK2, HO_3, BK351, HB⟩ := hrel
  cases gk with
  | zero => exact absurd HA.out (by simp [apogeeref01_bits.l1])
  | succ k2 =>
   have H := HA.out
   clear HA
   simp only [apogeeref01_bits.l1] at H
   by_cases c9 : x5_2 < 64
   rw [if_pos c9] at H
   have c9b0 : decide (x5_2 < 64) = true := decide_eq_true c9
   clear c9
   by_cases c10 : 0 ≤ x5_2
   rw [if_pos c10] at H
   have c10b0 := eq_true c10
   have c10b1 : decide (0 ≤ x5_2) = true := decide_eq_true c10
   clear c10
   obtain ⟨ji11, hji11⟩ : ∃ j_ : Int, (shr .u64 (IntKind.u64.wrap (a0_0)) x5_2) = j_ := ⟨_, rfl⟩
   replace H : (if x3_2.length < 17592186044416 then (apogeeref01_bits.l1 k2 (x3_2 ++ [wrap64 (Go.bits .and .u64 (ji11) 1)]) (wrap64 (x5_2 + 1)) a0_0 a0_1) else (none)) = some r := by first | (rw [hji11] at H; exact H) | (simp only [hji11] at H ⊢; exact H)
   have hji11_ : ((IntKind.u64.wrap (a0_0)) / 2 ^ min x5_2.toNat 64) = ji11 := hji11
   have hji11z : x5_2 ≤ 64 → ((IntKind.u64.wrap (a0_0)) / 2 ^ x5_2.toNat) = ji11 := shr_small hji11
   by_cases c12 : x3_2.length < 17592186044416
   rw [if_pos c12] at H
   have LMc12 := bA c12
   clear c12
   obtain ⟨y355, hy355⟩ : ∃ y_ : List Int, y_ = (x3_2 ++ [wrap64 (Go.bits .and .u64 (ji11) 1)]) := ⟨_, rfl⟩
   replace H : (apogeeref01_bits.l1 k2 y355 (wrap64 (x5_2 + 1)) a0_0 a0_1) = some r := by first | (rw [hy355]; with_reducible exact H) | (have H2_ := (Option.bind_some _ _).symm.trans H; rw [hy355]; with_reducible exact H2_) | (have H2_ := (Option.bind_some _ _).symm.trans H; with_reducible exact H2_) | with_reducible exact H | (rw [hy355]; exact H) | exact H
   have Ny355 := bA hy355
   clear hy355
   have H' := bA H
   clear H
   obtain ⟨hcz13_0, hcz13_1, hfz13_0, hfz13_1⟩ := bc2 BK351
   rotate_left
   rw [if_neg c12] at H
   exact absurd H (by simp)
   rw [if_neg c10] at H
   exact absurd H (by simp)
   rw [if_neg c9] at H
   have c9b0 : decide (x5_2 < 64) = false := decide_eq_false c9
   clear c9
   obtain rfl := Option.some.inj H
   rotate_left
   all_goals go_wp2_with (first | ((with_reducible refine gate_builtin (b := .append) (xs := #[.tmp 23, .tmp 31]) rfl ?_); at_builtin; refine Kd.R_append (Kd.int .i64) (w0 := w) w.heap.size rfl (.tmp 23) (.tmp 31) 122 3 (.int .i64 0) 8 rfl Try.underlying122 info3 rfl (by decide) (by omega) u3 x3_2 (wrap64 (Go.bits .and .u64 (ji11) 1)) [.int .i64 (wrap64 (Go.bits .and .u64 (ji11) 1))] (fun _ => True) (fun _ => False) rfl rfl ?aP (fun _ hk => hk.elim) ?aF ?aO ?aB ?aS ?aL ?_; (case aP => exact rfl); (case aB => exact bX); (case aF => exact (fun _ _ => trivial)); (case aO => exact (bRr HO_3)); (case aS => exact bY); (case aL => have := LMc12.out; omega); intro v356 wz0 ho hb hg hat; rw [← Ny355.out] at ho; have HO357 := bA (ho); replace BK351 := bA (blk_grown (g := gb351) (o := .cells #[.int .i64 a0_0, .int .u64 a0_1] 90 (0, 0)) (bP BK351) hg (Kd.R_ne HO_3.out BK351.out (by decide))); replace HB := bA (hb); clear HO_3; clear ho hb hg hat))
   ·go_roundg k2
    case measure => have := HK1.out; have := HK2.out; omega
    case rel => exact ⟨(y355), (wrap64 (x5_2 + 1)), bs, H', ⟨by have := HK1.out; have := HK2.out; omega⟩, ⟨bRr HO357⟩, ⟨by (with_reducible repeat (first | refine blk_drewN ?_ _ | refine blk_drew ?_ | refine blk_alloc ?_ _)); exact BK351.out⟩, ⟨bX⟩⟩
   go_ret
   exact ⟨_, by first | rfl | (simp [errW_none, errW_some] <;> rfl) | (simp [*, errW_none, errW_some] <;> rfl), bRr HO_3, by repeat (first | (with_reducible first | exact HB.out | apply below_alloc | apply pw_below_drewN | apply below_drew1 | refine below_set ?_ GE351.out) | exact HB.out)⟩
/-! ### apogeeref01_value: function 119 -/
def apogeeref01_value.l0 : Nat → List Int → Int → Int → Int → Int → Option (Int × Int)
 | 0, _, _, _, _, _ => none
 | k + 1, x0, x4, x5, x360000, x360001 => if x5 < 64 then (if 0 ≤ x5 then (if x5 < (x0.length : Int) then (if (rd x0 x5) = 1 then (if 0 ≤ (wrap64 (64 + x5)) then (if (wrap64 (64 + x5)) < (x0.length : Int) then (if (rd x0 (wrap64 (64 + x5))) = 1 then (apogeeref01_value.l0 k x0 (Go.bits .or .u64 x4 (shl .u64 1 x5)) (wrap64 (x5 + 1)) x360000 (Go.bits .or .u64 x360001 (shl .u64 1 x5))) else (apogeeref01_value.l0 k x0 x4 (wrap64 (x5 + 1)) x360000 (Go.bits .or .u64 x360001 (shl .u64 1 x5)))) else (none)) else (none)) else (if 0 ≤ (wrap64 (64 + x5)) then (if (wrap64 (64 + x5)) < (x0.length : Int) then (if (rd x0 (wrap64 (64 + x5))) = 1 then (apogeeref01_value.l0 k x0 (Go.bits .or .u64 x4 (shl .u64 1 x5)) (wrap64 (x5 + 1)) x360000 x360001) else (apogeeref01_value.l0 k x0 x4 (wrap64 (x5 + 1)) x360000 x360001)) else (none)) else (none))) else (none)) else (none)) else (some (wrap64 (x4), x360001))
def apogeeref01_value.f (k : Nat) (l0 : List Int) : Option (Int × Int) := apogeeref01_value.l0 k l0 0 0 0 0
theorem apogeeref01_value.mono_l : ∀ k, (∀ y0 y1 y2 y3 y4, LeO (apogeeref01_value.l0 k y0 y1 y2 y3 y4) (apogeeref01_value.l0 (k + 1) y0 y1 y2 y3 y4))
 | 0 => fun _ _ _ _ _ r h => by simp [apogeeref01_value.l0] at h
 | k + 1 => by
  have ih0 := apogeeref01_value.mono_l k
  ·intro y0 y1 y2 y3 y4
   unfold apogeeref01_value.l0
   repeat' first
   | (with_reducible exact ih0 _ _ _ _ _)
   | (with_reducible exact LeO.refl _)
   | (with_reducible exact LeO.none _)
   | (with_reducible refine LeO.ite ?_ ?_)
   | (with_reducible refine LeO.bind ?_ (fun _ => ?_))
   | exact ih0 _ _ _ _ _
   | exact LeO.none _
   | refine LeO.ite ?_ ?_
   | refine LeO.bind ?_ (fun _ => ?_)
theorem apogeeref01_value.mono : ∀ a0 k, LeO (apogeeref01_value.f k a0) (apogeeref01_value.f (k + 1) a0) := by
 intro a0 k
 have ih0 := apogeeref01_value.mono_l k
 unfold apogeeref01_value.f
 repeat' first
   | (with_reducible exact ih0 _ _ _ _ _)
   | (with_reducible exact LeO.refl _)
   | (with_reducible exact LeO.none _)
   | (with_reducible refine LeO.ite ?_ ?_)
   | (with_reducible refine LeO.bind ?_ (fun _ => ?_))
   | exact ih0 _ _ _ _ _
   | exact LeO.none _
   | refine LeO.ite ?_ ?_
   | refine LeO.bind ?_ (fun _ => ?_)
set_option maxHeartbeats 8000000 in
set_option maxRecDepth 100000 in
theorem apogeeref01_value.calls (k : Nat) (A0 : Option Addr) (c0 : Nat) (l0 : List Int) (r1 : Int) (r2 : Int) (w : World) (hr0 : Kd.C (Kd.int .i64) w A0 l0.length l0) (hc0 : l0.length ≤ c0) (h : apogeeref01_value.f k l0 = some (r1, r2)) :
  Calls Try.prog 119 #[.slice A0 l0.length c0] w fun e w' => e = .returned (.agg #[.int .i64 r1, .int .u64 r2]) ∧ Below w.heap.size w w' := by
 have hu90 := Try.underlying90
 have HR0 := bA hr0
 have HC0 := bA hc0
 clear hr0 hc0
 have HB := bA (Below.refl w.heap.size w)
 have H : (apogeeref01_value.l0 k l0 0 0 0 0) = some (r1, r2) := h
 clear h
 have H' := bA H
 clear H
 go_enter Try.func119, Try.ntmps119
 go_wp2_with (first | ((with_reducible refine gate_dst (N := 2) rfl ?_); refine bE (N := 2) (cs := #[.int .i64 0, .int .u64 0]) (t := 90) ?_; intro gb358 hg w2 hbox hb; have BK358 := bA (hbox); have GW358 := bA (bZ hg); have GE358 := bA (bZ hg); replace HB := bA (bS hb); clear hb hbox hg) | ((with_reducible refine gate_dst (N := 3) rfl ?_); refine bE (N := 3) (cs := #[.int .i64 0, .int .u64 0]) (t := 90) ?_; intro gb359 hg w3 hbox hb; have BK359 := bA (hbox); have GW359 := bA (bZ hg); have GE359 := bA (bZ hg); have NB358_359 := bA (bL BK358 hg); have NB359_358 := bA (bG BK358 hg); replace BK358 := bA (bB BK358 hb); replace HB := bA (bS hb); clear hb hbox hg; have hnb4 := NB359_358.out; have hnc4 := NB358_359.out; obtain ⟨hcz5_0, hcz5_1, hfz5_0, hfz5_1⟩ := bc2 BK359))
 go_loopg [4, 5] k (fun kq v4 v5 w' => ∃ (x4_1 : Int) (x5_1 : Int) (x360001_1 : Int), v4 = .int .u64 x4_1 ∧ v5 = .int .i64 x5_1 ∧ Aside0 (apogeeref01_value.l0 kq l0 x4_1 x5_1 0 x360001_1 = some (r1, r2)) ∧ Aside0 (kq ≤ k) ∧ Aside0 (w'.heap[gb358]? = some (.cells #[.int .i64 0, .int .u64 0] 90 (0, 0))) ∧ Aside0 (w'.heap[gb359]? = some (.cells #[.int .i64 0, .int .u64 x360001_1] 90 (0, 0))) ∧ Aside0 (Below w.heap.size w w'))
 case atStart => exact ⟨(0), (0), (0), bs, bs, H', ⟨Nat.le_refl _⟩, ⟨by (repeat ((with_reducible repeat (first | refine blk_drewN ?_ _ | refine blk_drew ?_ | refine blk_alloc ?_ _)); refine blk_far ?_ NB358_359.out _)); (with_reducible repeat (first | refine blk_drewN ?_ _ | refine blk_drew ?_ | refine blk_alloc ?_ _)); exact BK358.out⟩, ⟨by (with_reducible repeat (first | refine blk_drewN ?_ _ | refine blk_drew ?_ | refine blk_alloc ?_ _)); refine blk_put (cs := #[.int .i64 0, .int .u64 0]) ?_ 1 _ rfl; (with_reducible repeat (first | refine blk_drewN ?_ _ | refine blk_drew ?_ | refine blk_alloc ?_ _)); refine blk_put (cs := #[.int .i64 0, .int .u64 0]) ?_ 0 _ rfl; (with_reducible repeat (first | refine blk_drewN ?_ _ | refine blk_drew ?_ | refine blk_alloc ?_ _)); exact BK359.out⟩, ⟨bX⟩⟩
 clear H'
 try clear c1
 try clear p2
 try clear c4
 try clear hcz5_0
 try clear hcz5_1
 try clear hfz5_0
 try clear hfz5_1
 obtain ⟨x4_1, x5_1, x360001_1, rfl, rfl, HA, HK1, BK358, BK359, HB⟩ := hrel
 cases gk with
 | zero => exact absurd HA.out (by simp [apogeeref01_value.l0])
 | succ k1 =>
  have H := HA.out
  clear HA
  simp only [apogeeref01_value.l0] at H
  by_cases c6 : x5_1 < 64
  rotate_left
  ·rw [if_neg c6] at H
   have c6b0 : decide (x5_1 < 64) = false := decide_eq_false c6
   clear c6
   simp only [Option.some.injEq, Prod.mk.injEq] at H
   obtain ⟨rfl, rfl⟩ := H
   have hnb27 := NB359_358.out
   have hnc27 := NB358_359.out
   obtain ⟨hcz28_0, hcz28_1, hfz28_0, hfz28_1⟩ := bc2 BK359
   obtain ⟨hcz29_0, hcz29_1, hfz29_0, hfz29_1⟩ := bc2 BK358
   go_wp2
   refine bodyPost_ret (results_cell_row rfl _ _ gb358 90 #[.int .i64 (wrap64 (x4_1)), .int .u64 x360001_1] (0, 0) _ rfl (by (with_reducible repeat (first | refine blk_drewN ?_ _ | refine blk_drew ?_ | refine blk_alloc ?_ _)); refine blk_put (cs := #[.int .i64 (wrap64 (x4_1)), .int .u64 0]) ?_ 1 _ rfl; (with_reducible repeat (first | refine blk_drewN ?_ _ | refine blk_drew ?_ | refine blk_alloc ?_ _)); refine blk_put (cs := #[.int .i64 0, .int .u64 0]) ?_ 0 _ rfl; (with_reducible repeat (first | refine blk_drewN ?_ _ | refine blk_drew ?_ | refine blk_alloc ?_ _)); refine blk_far ?_ NB358_359.out _; (with_reducible repeat (first | refine blk_drewN ?_ _ | refine blk_drew ?_ | refine blk_alloc ?_ _)); exact BK358.out) Try.underlying90 rfl (by kernel_rfl)) rfl ?_
   exact bF
  rw [if_pos c6] at H
  have c6b0 : decide (x5_1 < 64) = true := decide_eq_true c6
  clear c6
  by_cases c7 : 0 ≤ x5_1
  rotate_left
  ·rw [if_neg c7] at H
   exact absurd H (by simp)
  rw [if_pos c7] at H
  have c7b0 : decide (0 ≤ x5_1) = true := decide_eq_true c7
  clear c7
  by_cases c8 : x5_1 < (l0.length : Int)
  rotate_left
  ·rw [if_neg c8] at H
   exact absurd H (by simp)
  rw [if_pos c8] at H
  have c8b0 : decide (x5_1 < (l0.length : Int)) = true := decide_eq_true c8
  clear c8
  by_cases c9 : (rd l0 x5_1) = 1
  rotate_left
  ·rw [if_neg c9] at H
   have c9b0 : ((rd l0 x5_1) == 1) = false := beq_eq_false_iff_ne.mpr c9
   have c9b1 : ((rd l0 x5_1) != 1) = true := bne_iff_ne.mpr c9
   obtain ⟨ji21, hji21⟩ : ∃ j_ : Int, (wrap64 (64 + x5_1)) = j_ := ⟨_, rfl⟩
   replace H : (if 0 ≤ (ji21) then (if (ji21) < (l0.length : Int) then (if (rd l0 (ji21)) = 1 then (apogeeref01_value.l0 k1 l0 (Go.bits .or .u64 x4_1 (shl .u64 1 x5_1)) (wrap64 (x5_1 + 1)) 0 x360001_1) else (apogeeref01_value.l0 k1 l0 x4_1 (wrap64 (x5_1 + 1)) 0 x360001_1)) else (none)) else (none)) = some (r1, r2) := by first | (rw [hji21] at H; exact H) | (simp only [hji21] at H ⊢; exact H)
   have hji21w : (IntKind.i64.wrap (64 + x5_1)) = ji21 := (i64_w _).trans hji21
   by_cases c22 : 0 ≤ (ji21)
   rw [if_pos c22] at H
   have c22b0 : decide (0 ≤ (ji21)) = true := decide_eq_true c22
   clear c22
   by_cases c23 : (ji21) < (l0.length : Int)
   rw [if_pos c23] at H
   have c23b0 : decide ((ji21) < (l0.length : Int)) = true := decide_eq_true c23
   clear c23
   by_cases c24 : (rd l0 (ji21)) = 1
   rw [if_pos c24] at H
   have c24b0 : ((rd l0 (ji21)) == 1) = true := beq_iff_eq.mpr c24
   have c24b1 : ((rd l0 (ji21)) != 1) = false := bne_eq_false_iff_eq.mpr c24
   clear c24
   have c25b0 := eq_true (bo : 0 ≤ x5_1)
   obtain ⟨ji26, hji26⟩ : ∃ j_ : Int, (shl .u64 1 x5_1) = j_ := ⟨_, rfl⟩
   replace H : (apogeeref01_value.l0 k1 l0 (Go.bits .or .u64 x4_1 (ji26)) (wrap64 (x5_1 + 1)) 0 x360001_1) = some (r1, r2) := by first | (rw [hji26] at H; exact H) | (simp only [hji26] at H ⊢; exact H)
   have hji26_ : (IntKind.u64.wrap (1 * 2 ^ min x5_1.toNat 64)) = ji26 := hji26
   have hji26z : x5_1 ≤ 64 → (IntKind.u64.wrap (1 * 2 ^ x5_1.toNat)) = ji26 := shl_small hji26
   have hji26u : (IntKind.u64.wrap (2 ^ min x5_1.toNat 64)) = ji26 := by have h_ := hji26_; rw [Int.one_mul] at h_; exact h_
   have hji26v : x5_1 ≤ 64 → (IntKind.u64.wrap (2 ^ x5_1.toNat)) = ji26 := fun hle_ => by have h_ := hji26z hle_; rw [Int.one_mul] at h_; exact h_
   have H' := bA H
   clear H
   have p360 : 0 ≤ (x5_1 : Int) := bo
   have q360 : x5_1 < (l0.length : Int) := bo
   obtain ⟨ad360, e360, hx360_0⟩ := Kd.at_int HR0.out x5_1 p360 q360
   cases e360
   replace hx360_0 := bK hx360_0
   replace p360 := eq_true p360
   replace q360 := eq_true q360
   have p362 : 0 ≤ ((ji21) : Int) := bo
   have q362 : (ji21) < (l0.length : Int) := bo
   obtain ⟨ad362, e362, hx362_0⟩ := Kd.at_int HR0.out (ji21) p362 q362
   obtain rfl : ad360 = ad362 := (by injection e362)
   replace hx362_0 := bK hx362_0
   replace p362 := eq_true p362
   replace q362 := eq_true q362
   rotate_left
   rw [if_neg c24] at H
   have c24b0 : ((rd l0 (ji21)) == 1) = false := beq_eq_false_iff_ne.mpr c24
   have c24b1 : ((rd l0 (ji21)) != 1) = true := bne_iff_ne.mpr c24
   have H' := bA H
   clear H
   have p360 : 0 ≤ (x5_1 : Int) := bo
   have q360 : x5_1 < (l0.length : Int) := bo
   obtain ⟨ad360, e360, hx360_0⟩ := Kd.at_int HR0.out x5_1 p360 q360
   cases e360
   replace hx360_0 := bK hx360_0
   replace p360 := eq_true p360
   replace q360 := eq_true q360
   have p362 : 0 ≤ ((ji21) : Int) := bo
   have q362 : (ji21) < (l0.length : Int) := bo
   obtain ⟨ad362, e362, hx362_0⟩ := Kd.at_int HR0.out (ji21) p362 q362
   obtain rfl : ad360 = ad362 := (by injection e362)
   replace hx362_0 := bK hx362_0
   replace p362 := eq_true p362
   replace q362 := eq_true q362
   rotate_left
   rw [if_neg c23] at H
   exact absurd H (by simp)
   rw [if_neg c22] at H
   exact absurd H (by simp)
   all_goals go_wp2
   ·go_roundg k1
    case measure => have := HK1.out; omega
    case rel => exact ⟨(Go.bits .or .u64 x4_1 (ji26)), (wrap64 (x5_1 + 1)), (x360001_1), (by first | rfl | (simp; done) | (simp only [← hji26] <;> (first | rfl | simp)) | (simp [*]; done)), bs, H', ⟨by have := HK1.out; omega⟩, ⟨by (with_reducible repeat (first | refine blk_drewN ?_ _ | refine blk_drew ?_ | refine blk_alloc ?_ _)); exact BK358.out⟩, ⟨by (with_reducible repeat (first | refine blk_drewN ?_ _ | refine blk_drew ?_ | refine blk_alloc ?_ _)); exact BK359.out⟩, ⟨bX⟩⟩
   go_roundg k1
   case measure => have := HK1.out; omega
   case rel => exact ⟨(x4_1), (wrap64 (x5_1 + 1)), (x360001_1), bs, bs, H', ⟨by have := HK1.out; omega⟩, ⟨by (with_reducible repeat (first | refine blk_drewN ?_ _ | refine blk_drew ?_ | refine blk_alloc ?_ _)); exact BK358.out⟩, ⟨by (with_reducible repeat (first | refine blk_drewN ?_ _ | refine blk_drew ?_ | refine blk_alloc ?_ _)); exact BK359.out⟩, ⟨bX⟩⟩
  rw [if_pos c9] at H
  have c9b0 : ((rd l0 x5_1) == 1) = true := beq_iff_eq.mpr c9
  have c9b1 : ((rd l0 x5_1) != 1) = false := bne_eq_false_iff_eq.mpr c9
  clear c9
  have c10b0 := eq_true (bo : 0 ≤ x5_1)
  obtain ⟨ji11, hji11⟩ : ∃ j_ : Int, (shl .u64 1 x5_1) = j_ := ⟨_, rfl⟩
  replace H : (if 0 ≤ (wrap64 (64 + x5_1)) then (if (wrap64 (64 + x5_1)) < (l0.length : Int) then (if (rd l0 (wrap64 (64 + x5_1))) = 1 then (apogeeref01_value.l0 k1 l0 (Go.bits .or .u64 x4_1 (ji11)) (wrap64 (x5_1 + 1)) 0 (Go.bits .or .u64 x360001_1 (ji11))) else (apogeeref01_value.l0 k1 l0 x4_1 (wrap64 (x5_1 + 1)) 0 (Go.bits .or .u64 x360001_1 (ji11)))) else (none)) else (none)) = some (r1, r2) := by first | (rw [hji11] at H; exact H) | (simp only [hji11] at H ⊢; exact H)
  have hji11_ : (IntKind.u64.wrap (1 * 2 ^ min x5_1.toNat 64)) = ji11 := hji11
  have hji11z : x5_1 ≤ 64 → (IntKind.u64.wrap (1 * 2 ^ x5_1.toNat)) = ji11 := shl_small hji11
  have hji11u : (IntKind.u64.wrap (2 ^ min x5_1.toNat 64)) = ji11 := by have h_ := hji11_; rw [Int.one_mul] at h_; exact h_
  have hji11v : x5_1 ≤ 64 → (IntKind.u64.wrap (2 ^ x5_1.toNat)) = ji11 := fun hle_ => by have h_ := hji11z hle_; rw [Int.one_mul] at h_; exact h_
  obtain ⟨ji12, hji12⟩ : ∃ j_ : Int, (wrap64 (64 + x5_1)) = j_ := ⟨_, rfl⟩
  replace H : (if 0 ≤ (ji12) then (if (ji12) < (l0.length : Int) then (if (rd l0 (ji12)) = 1 then (apogeeref01_value.l0 k1 l0 (Go.bits .or .u64 x4_1 (ji11)) (wrap64 (x5_1 + 1)) 0 (Go.bits .or .u64 x360001_1 (ji11))) else (apogeeref01_value.l0 k1 l0 x4_1 (wrap64 (x5_1 + 1)) 0 (Go.bits .or .u64 x360001_1 (ji11)))) else (none)) else (none)) = some (r1, r2) := by first | (rw [hji12] at H; exact H) | (simp only [hji12] at H ⊢; exact H)
  have hji12w : (IntKind.i64.wrap (64 + x5_1)) = ji12 := (i64_w _).trans hji12
  by_cases c13 : 0 ≤ (ji12)
  rotate_left
  ·rw [if_neg c13] at H
   exact absurd H (by simp)
  rw [if_pos c13] at H
  have c13b0 : decide (0 ≤ (ji12)) = true := decide_eq_true c13
  clear c13
  by_cases c14 : (ji12) < (l0.length : Int)
  rotate_left
  ·rw [if_neg c14] at H
   exact absurd H (by simp)
  rw [if_pos c14] at H
  have c14b0 : decide ((ji12) < (l0.length : Int)) = true := decide_eq_true c14
  clear c14
  by_cases c15 : (rd l0 (ji12)) = 1
  ·rw [if_pos c15] at H
   have c15b0 : ((rd l0 (ji12)) == 1) = true := beq_iff_eq.mpr c15
   have c15b1 : ((rd l0 (ji12)) != 1) = false := bne_eq_false_iff_eq.mpr c15
   clear c15
   have c16b0 := eq_true (bo : 0 ≤ x5_1)
   have H' := bA H
   clear H
   have p360 : 0 ≤ (x5_1 : Int) := bo
   have q360 : x5_1 < (l0.length : Int) := bo
   obtain ⟨ad360, e360, hx360_0⟩ := Kd.at_int HR0.out x5_1 p360 q360
   cases e360
   replace hx360_0 := bK hx360_0
   replace p360 := eq_true p360
   replace q360 := eq_true q360
   try go_wp2
   replace BK358 := bA (blk_drew BK358.out)
   replace BK359 := bA (blk_drew BK359.out)
   replace HB := bA (below_drew1 HB.out)
   refine start_ (n := 7) (S := fun w' => w'.cell? ⟨gb359, 0, none⟩ = some (.int .i64 0) ∧ w'.cell? ⟨gb359, 1, none⟩ = some (.int .u64 x360001_1)) (ds := [6]) #[false, false, false, false, false, false, false] (by kernel_rfl) rfl rfl ⟨bq BK359 0, bq BK359 1⟩ (fun hHeld => ?_)
   generalize wr.drew = w17 at BK358 BK359 HB hHeld ⊢
   refine pure_ (i := 0) (N := some 16) (v := ?_) (a' := ?_) #[true, false, false, false, false, false, false] rfl rfl (by kernel_rfl) (fun _ _ _ h => h) (Or.inl ⟨by rfl, ?_⟩) ?_ ?_
   rotate_left
   ·intro w'
    go_simp
    with_reducible rfl
   rotate_left
   ·simp only [Act.put, List.setIfInBounds_toArray, List.set_cons_zero, List.set_cons_succ, i64_w, i32_w]
    rfl
   refine pure_ (i := 2) (N := some 18) (v := ?_) (a' := ?_) #[true, false, true, false, false, false, false] rfl rfl (by kernel_rfl) (fun _ _ _ h => h) (Or.inl ⟨by rfl, ?_⟩) ?_ ?_
   rotate_left
   ·intro w'
    go_simp
    with_reducible rfl
   rotate_left
   ·simp only [Act.put, List.setIfInBounds_toArray, List.set_cons_zero, List.set_cons_succ, i64_w, i32_w]
    rfl
   refine pure_ (i := 3) (N := some 19) (v := ?_) (a' := ?_) #[true, false, true, true, false, false, false] rfl rfl (by kernel_rfl) (fun _ _ _ h => h) (Or.inl ⟨by rfl, ?_⟩) ?_ ?_
   rotate_left
   ·intro w'
    go_simp
    with_reducible rfl
   rotate_left
   ·simp only [Act.put, List.setIfInBounds_toArray, List.set_cons_zero, List.set_cons_succ, i64_w, i32_w]
    rfl
   refine take_ (i := 1) (N := some 17) (v := ?_) (a' := ?_) #[true, true, true, true, false, false, false] rfl rfl (by kernel_rfl) (fun _ _ _ h => h) (Or.inl ⟨by rfl, ?_⟩) hHeld ?_ ?_
   rotate_left
   ·rintro w' ⟨s0, s1⟩
    go_simp
    with_reducible rfl
   rotate_left
   ·simp only [Act.put, List.setIfInBounds_toArray, List.set_cons_zero, List.set_cons_succ, i64_w, i32_w]
    rfl
   refine pure_ (i := 4) (N := some 20) (v := ?_) (a' := ?_) #[true, true, true, true, true, false, false] rfl rfl (by kernel_rfl) (fun _ _ _ h => h) (Or.inl ⟨by rfl, ?_⟩) ?_ ?_
   rotate_left
   ·intro w'
    go_simp
    with_reducible rfl
   rotate_left
   ·simp only [Act.put, List.setIfInBounds_toArray, List.set_cons_zero, List.set_cons_succ, i64_w, i32_w]
    rfl
   refine pure_ (i := 5) (N := some 21) (v := ?_) (a' := ?_) #[true, true, true, true, true, true, false] rfl rfl (by kernel_rfl) (fun _ _ _ h => h) (Or.inl ⟨by rfl, ?_⟩) ?_ ?_
   rotate_left
   ·intro w'
    go_simp
    with_reducible rfl
   rotate_left
   ·simp only [Act.put, List.setIfInBounds_toArray, List.set_cons_zero, List.set_cons_succ, i64_w, i32_w]
    rfl
   refine last_ (i := 6) (N := none) #[true, true, true, true, true, true, true] rfl rfl (by kernel_rfl) (by decide) (fun K hK => ?_)
   have hs18 : w17.cell? ⟨gb359, 1, none⟩ = some (.int .u64 x360001_1) := bq BK359 1
   have hfs18 := blk_frozen BK359.out 1
   have hns18_0 := NB358_359.out
   have hms18_0 := NB359_358.out
   refine skip_ (w1 := ?_) (by rfl) rfl ?_ ?_
   rotate_left
   ·go_simp
    rfl
   refine hK.out _ _ ?_
   clear hK K
   refine done_ (by kernel_rfl) ?_
   have p361 : 0 ≤ ((ji12) : Int) := bo
   have q361 : (ji12) < (l0.length : Int) := bo
   obtain ⟨ad361, e361, hx361_0⟩ := Kd.at_int HR0.out (ji12) p361 q361
   obtain rfl : ad360 = ad361 := (by injection e361)
   have hn361_0 : ad360.block ≠ gb359 := Nat.ne_of_lt (Nat.lt_of_lt_of_le (by have := World.block_lt_of_cell? _ _ hx361_0; first | rwa [add_block] at this | exact this) GW359.out)
   replace hx361_0 := bK hx361_0
   replace hx361_0 := (cell_far (p := ⟨gb359, 1, none⟩) (by first | (rw [add_block]; exact hn361_0) | (show (Addr.add _ _).block ≠ _; rw [add_block]; exact hn361_0) | exact hn361_0) (.int .u64 (Go.bits .or .u64 x360001_1 (ji11)))).trans hx361_0
   clear hn361_0
   replace p361 := eq_true p361
   replace q361 := eq_true q361
   try go_wp2
   go_roundg k1
   case measure => have := HK1.out; omega
   case rel => exact ⟨(Go.bits .or .u64 x4_1 (ji11)), (wrap64 (x5_1 + 1)), (Go.bits .or .u64 x360001_1 (ji11)), (by first | rfl | (simp; done) | (simp only [← hji11] <;> (first | rfl | simp)) | (simp [*]; done)), bs, H', ⟨by have := HK1.out; omega⟩, ⟨by (with_reducible repeat (first | refine blk_drewN ?_ _ | refine blk_drew ?_ | refine blk_alloc ?_ _)); refine blk_far ?_ NB358_359.out _; (with_reducible repeat (first | refine blk_drewN ?_ _ | refine blk_drew ?_ | refine blk_alloc ?_ _)); exact BK358.out⟩, ⟨by (with_reducible repeat (first | refine blk_drewN ?_ _ | refine blk_drew ?_ | refine blk_alloc ?_ _)); refine blk_put (cs := #[.int .i64 0, .int .u64 x360001_1]) ?_ 1 _ rfl; (with_reducible repeat (first | refine blk_drewN ?_ _ | refine blk_drew ?_ | refine blk_alloc ?_ _)); exact BK359.out⟩, ⟨bX⟩⟩
  rw [if_neg c15] at H
  have c15b0 : ((rd l0 (ji12)) == 1) = false := beq_eq_false_iff_ne.mpr c15
  have c15b1 : ((rd l0 (ji12)) != 1) = true := bne_iff_ne.mpr c15
  have H' := bA H
  clear H
  have p360 : 0 ≤ (x5_1 : Int) := bo
  have q360 : x5_1 < (l0.length : Int) := bo
  obtain ⟨ad360, e360, hx360_0⟩ := Kd.at_int HR0.out x5_1 p360 q360
  cases e360
  replace hx360_0 := bK hx360_0
  replace p360 := eq_true p360
  replace q360 := eq_true q360
  try go_wp2
  replace BK358 := bA (blk_drew BK358.out)
  replace BK359 := bA (blk_drew BK359.out)
  replace HB := bA (below_drew1 HB.out)
  refine start_ (n := 7) (S := fun w' => w'.cell? ⟨gb359, 0, none⟩ = some (.int .i64 0) ∧ w'.cell? ⟨gb359, 1, none⟩ = some (.int .u64 x360001_1)) (ds := [6]) #[false, false, false, false, false, false, false] (by kernel_rfl) rfl rfl ⟨bq BK359 0, bq BK359 1⟩ (fun hHeld => ?_)
  generalize wr.drew = w19 at BK358 BK359 HB hHeld ⊢
  refine pure_ (i := 0) (N := some 16) (v := ?_) (a' := ?_) #[true, false, false, false, false, false, false] rfl rfl (by kernel_rfl) (fun _ _ _ h => h) (Or.inl ⟨by rfl, ?_⟩) ?_ ?_
  rotate_left
  ·intro w'
   go_simp
   with_reducible rfl
  rotate_left
  ·simp only [Act.put, List.setIfInBounds_toArray, List.set_cons_zero, List.set_cons_succ, i64_w, i32_w]
   rfl
  refine pure_ (i := 2) (N := some 18) (v := ?_) (a' := ?_) #[true, false, true, false, false, false, false] rfl rfl (by kernel_rfl) (fun _ _ _ h => h) (Or.inl ⟨by rfl, ?_⟩) ?_ ?_
  rotate_left
  ·intro w'
   go_simp
   with_reducible rfl
  rotate_left
  ·simp only [Act.put, List.setIfInBounds_toArray, List.set_cons_zero, List.set_cons_succ, i64_w, i32_w]
   rfl
  refine pure_ (i := 3) (N := some 19) (v := ?_) (a' := ?_) #[true, false, true, true, false, false, false] rfl rfl (by kernel_rfl) (fun _ _ _ h => h) (Or.inl ⟨by rfl, ?_⟩) ?_ ?_
  rotate_left
  ·intro w'
   go_simp
   with_reducible rfl
  rotate_left
  ·simp only [Act.put, List.setIfInBounds_toArray, List.set_cons_zero, List.set_cons_succ, i64_w, i32_w]
   rfl
  refine take_ (i := 1) (N := some 17) (v := ?_) (a' := ?_) #[true, true, true, true, false, false, false] rfl rfl (by kernel_rfl) (fun _ _ _ h => h) (Or.inl ⟨by rfl, ?_⟩) hHeld ?_ ?_
  rotate_left
  ·rintro w' ⟨s0, s1⟩
   go_simp
   with_reducible rfl
  rotate_left
  ·simp only [Act.put, List.setIfInBounds_toArray, List.set_cons_zero, List.set_cons_succ, i64_w, i32_w]
   rfl
  refine pure_ (i := 4) (N := some 20) (v := ?_) (a' := ?_) #[true, true, true, true, true, false, false] rfl rfl (by kernel_rfl) (fun _ _ _ h => h) (Or.inl ⟨by rfl, ?_⟩) ?_ ?_
  rotate_left
  ·intro w'
   go_simp
   with_reducible rfl
  rotate_left
  ·simp only [Act.put, List.setIfInBounds_toArray, List.set_cons_zero, List.set_cons_succ, i64_w, i32_w]
   rfl
  refine pure_ (i := 5) (N := some 21) (v := ?_) (a' := ?_) #[true, true, true, true, true, true, false] rfl rfl (by kernel_rfl) (fun _ _ _ h => h) (Or.inl ⟨by rfl, ?_⟩) ?_ ?_
  rotate_left
  ·intro w'
   go_simp
   with_reducible rfl
  rotate_left
  ·simp only [Act.put, List.setIfInBounds_toArray, List.set_cons_zero, List.set_cons_succ, i64_w, i32_w]
   rfl
  refine last_ (i := 6) (N := none) #[true, true, true, true, true, true, true] rfl rfl (by kernel_rfl) (by decide) (fun K hK => ?_)
  have hs20 : w19.cell? ⟨gb359, 1, none⟩ = some (.int .u64 x360001_1) := bq BK359 1
  have hfs20 := blk_frozen BK359.out 1
  have hns20_0 := NB358_359.out
  have hms20_0 := NB359_358.out
  refine skip_ (w1 := ?_) (by rfl) rfl ?_ ?_
  rotate_left
  ·go_simp
   rfl
  refine hK.out _ _ ?_
  clear hK K
  refine done_ (by kernel_rfl) ?_
  have p361 : 0 ≤ ((ji12) : Int) := bo
  have q361 : (ji12) < (l0.length : Int) := bo
  obtain ⟨ad361, e361, hx361_0⟩ := Kd.at_int HR0.out (ji12) p361 q361
  obtain rfl : ad360 = ad361 := (by injection e361)
  have hn361_0 : ad360.block ≠ gb359 := Nat.ne_of_lt (Nat.lt_of_lt_of_le (by have := World.block_lt_of_cell? _ _ hx361_0; first | rwa [add_block] at this | exact this) GW359.out)
  replace hx361_0 := bK hx361_0
  replace hx361_0 := (cell_far (p := ⟨gb359, 1, none⟩) (by first | (rw [add_block]; exact hn361_0) | (show (Addr.add _ _).block ≠ _; rw [add_block]; exact hn361_0) | exact hn361_0) (.int .u64 (Go.bits .or .u64 x360001_1 (ji11)))).trans hx361_0
  clear hn361_0
  replace p361 := eq_true p361
  replace q361 := eq_true q361
  try go_wp2
  go_roundg k1
  case measure => have := HK1.out; omega
  case rel => exact ⟨(x4_1), (wrap64 (x5_1 + 1)), (Go.bits .or .u64 x360001_1 (ji11)), bs, bs, H', ⟨by have := HK1.out; omega⟩, ⟨by (with_reducible repeat (first | refine blk_drewN ?_ _ | refine blk_drew ?_ | refine blk_alloc ?_ _)); refine blk_far ?_ NB358_359.out _; (with_reducible repeat (first | refine blk_drewN ?_ _ | refine blk_drew ?_ | refine blk_alloc ?_ _)); exact BK358.out⟩, ⟨by (with_reducible repeat (first | refine blk_drewN ?_ _ | refine blk_drew ?_ | refine blk_alloc ?_ _)); refine blk_put (cs := #[.int .i64 0, .int .u64 x360001_1]) ?_ 1 _ rfl; (with_reducible repeat (first | refine blk_drewN ?_ _ | refine blk_drew ?_ | refine blk_alloc ?_ _)); exact BK359.out⟩, ⟨bX⟩⟩
end Go.Proofs.Ytjmibjmlihmglaa.G
