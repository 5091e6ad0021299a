-- Written by a program of this session out of the translation; Lean checks it.
import Derived.Test.YtjmibjmlihmglaaGx0
import Derived.Test.YtjmibjmlihmglaaGx12
namespace Go.Proofs.Ytjmibjmlihmglaa.G
open Go.RowKit Go.Proofs.YtjmibjmlihmglaaW.PrintWords Go.Proofs.YtjmibjmlihmglaaW.PrintLast Go.Proofs.YtjmibjmlihmglaaW.PrintMore
attribute [local go_sem] max2_int min2_int max_two min_two max_three min_three max_four min_four   -- for this text's walks alone
set_option linter.unusedVariables false
set_option linter.unusedSimpArgs false

/-! ### apogeeref01_value: function 119 -/
def apogeeref01_value.l0 : Nat → List Int → Int → Int → Int → Int → Option (Int × Int)
 | 0, _, _, _, _, _ => none
 | k + 1, x0, x4, x5, x366000, x366001 => if x5 < 64 then (if 0 ≤ x5 then (if x5 < (x0.length : Int) then (if (rd x0 x5) = 1 then (if 0 ≤ (wrap64 (64 + x5)) then (if (wrap64 (64 + x5)) < (x0.length : Int) then (if (rd x0 (wrap64 (64 + x5))) = 1 then (apogeeref01_value.l0 k x0 (Go.bits .or .u64 x4 (shl .u64 1 x5)) (wrap64 (x5 + 1)) x366000 (Go.bits .or .u64 x366001 (shl .u64 1 x5))) else (apogeeref01_value.l0 k x0 x4 (wrap64 (x5 + 1)) x366000 (Go.bits .or .u64 x366001 (shl .u64 1 x5)))) else (none)) else (none)) else (if 0 ≤ (wrap64 (64 + x5)) then (if (wrap64 (64 + x5)) < (x0.length : Int) then (if (rd x0 (wrap64 (64 + x5))) = 1 then (apogeeref01_value.l0 k x0 (Go.bits .or .u64 x4 (shl .u64 1 x5)) (wrap64 (x5 + 1)) x366000 x366001) else (apogeeref01_value.l0 k x0 x4 (wrap64 (x5 + 1)) x366000 x366001)) else (none)) else (none))) else (none)) else (none)) else (some (wrap64 (x4), x366001))
def apogeeref01_value.f (k : Nat) (l0 : List Int) : Option (Int × Int) := apogeeref01_value.l0 k l0 0 0 0 0
theorem apogeeref01_value.mono_l : ∀ k, (∀ y0 y1 y2 y3 y4, LeO (apogeeref01_value.l0 k y0 y1 y2 y3 y4) (apogeeref01_value.l0 (k + 1) y0 y1 y2 y3 y4))
 | 0 => fun _ _ _ _ _ r h => by simp [apogeeref01_value.l0] at h
 | k + 1 => by
  have ih0 := apogeeref01_value.mono_l k
  ·intro y0 y1 y2 y3 y4
   unfold apogeeref01_value.l0
   exact bMo
theorem apogeeref01_value.mono : ∀ a0 k, LeO (apogeeref01_value.f k a0) (apogeeref01_value.f (k + 1) a0) := by
 intro a0 k
 have ih0 := apogeeref01_value.mono_l k
 unfold apogeeref01_value.f
 exact bMo
set_option maxHeartbeats 8000000 in
set_option maxRecDepth 100000 in
theorem apogeeref01_value.calls (k : Nat) (A0 : Option Addr) (c0 : Nat) (l0 : List Int) (r1 : Int) (r2 : Int) (w : World) (hr0 : Kd.C (Kd.int .i64) w A0 l0.length l0) (hc0 : l0.length ≤ c0) (h : apogeeref01_value.f k l0 = some (r1, r2)) :
  Calls Try.prog 119 #[.slice A0 l0.length c0] w fun e w' => e = .returned (.agg #[.int .i64 r1, .int .u64 r2]) ∧ Below w.heap.size w w' := by
 have hu90 := Try.underlying90
 have HR0 := bA hr0
 have HC0 := bA hc0
 clear hr0 hc0
 have HB := bA (Below.refl w.heap.size w)
 have H : (apogeeref01_value.l0 k l0 0 0 0 0) = some (r1, r2) := h
 clear h
 have H' := bA H
 clear H
 go_enter Try.func119, Try.ntmps119
 go_wp2_with (first | ((with_reducible refine gate_dst (N := 2) rfl ?_); refine bE (N := 2) (cs := #[.int .i64 0, .int .u64 0]) (t := 90) ?_; intro gb364 hg w2 hbox hb; have BK364 := bA (hbox); have GW364 := bA (bZ hg); have GE364 := bA (bZ hg); replace HB := bA (bS hb); clear hb hbox hg) | ((with_reducible refine gate_dst (N := 3) rfl ?_); refine bE (N := 3) (cs := #[.int .i64 0, .int .u64 0]) (t := 90) ?_; intro gb365 hg w3 hbox hb; have BK365 := bA (hbox); have GW365 := bA (bZ hg); have GE365 := bA (bZ hg); have NB364_365 := bA (bL BK364 hg); have NB365_364 := bA (bG BK364 hg); replace BK364 := bA (bB BK364 hb); replace HB := bA (bS hb); clear hb hbox hg; have hnb4 := NB365_364.out; have hnc4 := NB364_365.out; obtain ⟨hcz5_0, hcz5_1, hfz5_0, hfz5_1⟩ := bc2 BK365))
 go_loopg [4, 5] k (fun kq v4 v5 w' => ∃ (x4_1 : Int) (x5_1 : Int) (x366001_1 : Int), v4 = .int .u64 x4_1 ∧ v5 = .int .i64 x5_1 ∧ Aside0 (apogeeref01_value.l0 kq l0 x4_1 x5_1 0 x366001_1 = some (r1, r2)) ∧ Aside0 (kq ≤ k) ∧ Aside0 (w'.heap[gb364]? = some (.cells #[.int .i64 0, .int .u64 0] 90 (0, 0))) ∧ Aside0 (w'.heap[gb365]? = some (.cells #[.int .i64 0, .int .u64 x366001_1] 90 (0, 0))) ∧ Aside0 (Below w.heap.size w w'))
 case atStart => exact ⟨(0), (0), (0), bs, bs, H', ⟨Nat.le_refl _⟩, ⟨by (repeat ((with_reducible repeat (first | refine blk_drewN ?_ _ | refine blk_drew ?_ | refine blk_alloc ?_ _)); refine blk_far ?_ NB364_365.out _)); (with_reducible repeat (first | refine blk_drewN ?_ _ | refine blk_drew ?_ | refine blk_alloc ?_ _)); exact BK364.out⟩, ⟨by (with_reducible repeat (first | refine blk_drewN ?_ _ | refine blk_drew ?_ | refine blk_alloc ?_ _)); refine blk_put (cs := #[.int .i64 0, .int .u64 0]) ?_ 1 _ rfl; (with_reducible repeat (first | refine blk_drewN ?_ _ | refine blk_drew ?_ | refine blk_alloc ?_ _)); refine blk_put (cs := #[.int .i64 0, .int .u64 0]) ?_ 0 _ rfl; (with_reducible repeat (first | refine blk_drewN ?_ _ | refine blk_drew ?_ | refine blk_alloc ?_ _)); exact BK365.out⟩, ⟨bX⟩⟩
 clear H'
 try clear c1
 try clear p2
 try clear c4
 try clear hcz5_0
 try clear hcz5_1
 try clear hfz5_0
 try clear hfz5_1
 obtain ⟨x4_1, x5_1, x366001_1, rfl, rfl, HA, HK1, BK364, BK365, HB⟩ := hrel
 cases gk with
 | zero => exact absurd HA.out (by simp [apogeeref01_value.l0])
 | succ k1 =>
  have H := HA.out
  clear HA
  simp only [apogeeref01_value.l0] at H
  by_cases c6 : x5_1 < 64
  rotate_left
  ·rw [if_neg c6] at H
   have c6b0 : decide (x5_1 < 64) = false := decide_eq_false c6
   clear c6
   simp only [Option.some.injEq, Prod.mk.injEq] at H
   obtain ⟨rfl, rfl⟩ := H
   have hnb27 := NB365_364.out
   have hnc27 := NB364_365.out
   obtain ⟨hcz28_0, hcz28_1, hfz28_0, hfz28_1⟩ := bc2 BK365
   obtain ⟨hcz29_0, hcz29_1, hfz29_0, hfz29_1⟩ := bc2 BK364
   go_wp2
   refine bodyPost_ret (results_cell_row rfl _ _ gb364 90 #[.int .i64 (wrap64 (x4_1)), .int .u64 x366001_1] (0, 0) _ rfl (by (with_reducible repeat (first | refine blk_drewN ?_ _ | refine blk_drew ?_ | refine blk_alloc ?_ _)); refine blk_put (cs := #[.int .i64 (wrap64 (x4_1)), .int .u64 0]) ?_ 1 _ rfl; (with_reducible repeat (first | refine blk_drewN ?_ _ | refine blk_drew ?_ | refine blk_alloc ?_ _)); refine blk_put (cs := #[.int .i64 0, .int .u64 0]) ?_ 0 _ rfl; (with_reducible repeat (first | refine blk_drewN ?_ _ | refine blk_drew ?_ | refine blk_alloc ?_ _)); refine blk_far ?_ NB364_365.out _; (with_reducible repeat (first | refine blk_drewN ?_ _ | refine blk_drew ?_ | refine blk_alloc ?_ _)); exact BK364.out) Try.underlying90 rfl (by kernel_rfl)) rfl ?_
   exact bF
  rw [if_pos c6] at H
  have c6b0 : decide (x5_1 < 64) = true := decide_eq_true c6
  clear c6
  by_cases c7 : 0 ≤ x5_1
  rotate_left
  ·rw [if_neg c7] at H
   exact absurd H (by simp)
  rw [if_pos c7] at H
  have c7b0 : decide (0 ≤ x5_1) = true := decide_eq_true c7
  clear c7
  by_cases c8 : x5_1 < (l0.length : Int)
  rotate_left
  ·rw [if_neg c8] at H
   exact absurd H (by simp)
  rw [if_pos c8] at H
  have c8b0 : decide (x5_1 < (l0.length : Int)) = true := decide_eq_true c8
  clear c8
  by_cases c9 : (rd l0 x5_1) = 1
  rotate_left
  ·rw [if_neg c9] at H
   have c9b0 : ((rd l0 x5_1) == 1) = false := beq_eq_false_iff_ne.mpr c9
   have c9b1 : ((rd l0 x5_1) != 1) = true := bne_iff_ne.mpr c9
   obtain ⟨ji21, hji21⟩ : ∃ j_ : Int, (wrap64 (64 + x5_1)) = j_ := ⟨_, rfl⟩
   replace H : (if 0 ≤ (ji21) then (if (ji21) < (l0.length : Int) then (if (rd l0 (ji21)) = 1 then (apogeeref01_value.l0 k1 l0 (Go.bits .or .u64 x4_1 (shl .u64 1 x5_1)) (wrap64 (x5_1 + 1)) 0 x366001_1) else (apogeeref01_value.l0 k1 l0 x4_1 (wrap64 (x5_1 + 1)) 0 x366001_1)) else (none)) else (none)) = some (r1, r2) := by first | (rw [hji21] at H; exact H) | (simp only [hji21] at H ⊢; exact H)
   have hji21w : (IntKind.i64.wrap (64 + x5_1)) = ji21 := (i64_w _).trans hji21
   by_cases c22 : 0 ≤ (ji21)
   rw [if_pos c22] at H
   have c22b0 : decide (0 ≤ (ji21)) = true := decide_eq_true c22
   clear c22
   by_cases c23 : (ji21) < (l0.length : Int)
   rw [if_pos c23] at H
   have c23b0 : decide ((ji21) < (l0.length : Int)) = true := decide_eq_true c23
   clear c23
   by_cases c24 : (rd l0 (ji21)) = 1
   rw [if_pos c24] at H
   have c24b0 : ((rd l0 (ji21)) == 1) = true := beq_iff_eq.mpr c24
   have c24b1 : ((rd l0 (ji21)) != 1) = false := bne_eq_false_iff_eq.mpr c24
   clear c24
   have c25b0 := eq_true (bo : 0 ≤ x5_1)
   obtain ⟨ji26, hji26⟩ : ∃ j_ : Int, (shl .u64 1 x5_1) = j_ := ⟨_, rfl⟩
   replace H : (apogeeref01_value.l0 k1 l0 (Go.bits .or .u64 x4_1 (ji26)) (wrap64 (x5_1 + 1)) 0 x366001_1) = some (r1, r2) := by first | (rw [hji26] at H; exact H) | (simp only [hji26] at H ⊢; exact H)
   have hji26_ : (IntKind.u64.wrap (1 * 2 ^ min x5_1.toNat 64)) = ji26 := hji26
   have hji26z : x5_1 ≤ 64 → (IntKind.u64.wrap (1 * 2 ^ x5_1.toNat)) = ji26 := shl_small hji26
   have hji26u : (IntKind.u64.wrap (2 ^ min x5_1.toNat 64)) = ji26 := by have h_ := hji26_; rw [Int.one_mul] at h_; exact h_
   have hji26v : x5_1 ≤ 64 → (IntKind.u64.wrap (2 ^ x5_1.toNat)) = ji26 := fun hle_ => by have h_ := hji26z hle_; rw [Int.one_mul] at h_; exact h_
   have H' := bA H
   clear H
   have p366 : 0 ≤ (x5_1 : Int) := bo
   have q366 : x5_1 < (l0.length : Int) := bo
   obtain ⟨ad366, e366, hx366_0⟩ := Kd.at_int HR0.out x5_1 p366 q366
   cases e366
   replace hx366_0 := bK hx366_0
   replace p366 := eq_true p366
   replace q366 := eq_true q366
   have p368 : 0 ≤ ((ji21) : Int) := bo
   have q368 : (ji21) < (l0.length : Int) := bo
   obtain ⟨ad368, e368, hx368_0⟩ := Kd.at_int HR0.out (ji21) p368 q368
   obtain rfl : ad366 = ad368 := (by injection e368)
   replace hx368_0 := bK hx368_0
   replace p368 := eq_true p368
   replace q368 := eq_true q368
   rotate_left
   rw [if_neg c24] at H
   have c24b0 : ((rd l0 (ji21)) == 1) = false := beq_eq_false_iff_ne.mpr c24
   have c24b1 : ((rd l0 (ji21)) != 1) = true := bne_iff_ne.mpr c24
   have H' := bA H
   clear H
   have p366 : 0 ≤ (x5_1 : Int) := bo
   have q366 : x5_1 < (l0.length : Int) := bo
   obtain ⟨ad366, e366, hx366_0⟩ := Kd.at_int HR0.out x5_1 p366 q366
   cases e366
   replace hx366_0 := bK hx366_0
   replace p366 := eq_true p366
   replace q366 := eq_true q366
   have p368 : 0 ≤ ((ji21) : Int) := bo
   have q368 : (ji21) < (l0.length : Int) := bo
   obtain ⟨ad368, e368, hx368_0⟩ := Kd.at_int HR0.out (ji21) p368 q368
   obtain rfl : ad366 = ad368 := (by injection e368)
   replace hx368_0 := bK hx368_0
   replace p368 := eq_true p368
   replace q368 := eq_true q368
   rotate_left
   rw [if_neg c23] at H
   exact absurd H (by simp)
   rw [if_neg c22] at H
   exact absurd H (by simp)
   all_goals go_wp2
   ·go_roundg k1
    case measure => have := HK1.out; omega
    case rel => exact ⟨(Go.bits .or .u64 x4_1 (ji26)), (wrap64 (x5_1 + 1)), (x366001_1), (by first | rfl | (simp; done) | (simp only [← hji26] <;> (first | rfl | simp)) | (simp [*]; done)), bs, H', ⟨by have := HK1.out; omega⟩, ⟨by (with_reducible repeat (first | refine blk_drewN ?_ _ | refine blk_drew ?_ | refine blk_alloc ?_ _)); exact BK364.out⟩, ⟨by (with_reducible repeat (first | refine blk_drewN ?_ _ | refine blk_drew ?_ | refine blk_alloc ?_ _)); exact BK365.out⟩, ⟨bX⟩⟩
   go_roundg k1
   case measure => have := HK1.out; omega
   case rel => exact ⟨(x4_1), (wrap64 (x5_1 + 1)), (x366001_1), bs, bs, H', ⟨by have := HK1.out; omega⟩, ⟨by (with_reducible repeat (first | refine blk_drewN ?_ _ | refine blk_drew ?_ | refine blk_alloc ?_ _)); exact BK364.out⟩, ⟨by (with_reducible repeat (first | refine blk_drewN ?_ _ | refine blk_drew ?_ | refine blk_alloc ?_ _)); exact BK365.out⟩, ⟨bX⟩⟩
  rw [if_pos c9] at H
  have c9b0 : ((rd l0 x5_1) == 1) = true := beq_iff_eq.mpr c9
  have c9b1 : ((rd l0 x5_1) != 1) = false := bne_eq_false_iff_eq.mpr c9
  clear c9
  have c10b0 := eq_true (bo : 0 ≤ x5_1)
  obtain ⟨ji11, hji11⟩ : ∃ j_ : Int, (shl .u64 1 x5_1) = j_ := ⟨_, rfl⟩
  replace H : (if 0 ≤ (wrap64 (64 + x5_1)) then (if (wrap64 (64 + x5_1)) < (l0.length : Int) then (if (rd l0 (wrap64 (64 + x5_1))) = 1 then (apogeeref01_value.l0 k1 l0 (Go.bits .or .u64 x4_1 (ji11)) (wrap64 (x5_1 + 1)) 0 (Go.bits .or .u64 x366001_1 (ji11))) else (apogeeref01_value.l0 k1 l0 x4_1 (wrap64 (x5_1 + 1)) 0 (Go.bits .or .u64 x366001_1 (ji11)))) else (none)) else (none)) = some (r1, r2) := by first | (rw [hji11] at H; exact H) | (simp only [hji11] at H ⊢; exact H)
  have hji11_ : (IntKind.u64.wrap (1 * 2 ^ min x5_1.toNat 64)) = ji11 := hji11
  have hji11z : x5_1 ≤ 64 → (IntKind.u64.wrap (1 * 2 ^ x5_1.toNat)) = ji11 := shl_small hji11
  have hji11u : (IntKind.u64.wrap (2 ^ min x5_1.toNat 64)) = ji11 := by have h_ := hji11_; rw [Int.one_mul] at h_; exact h_
  have hji11v : x5_1 ≤ 64 → (IntKind.u64.wrap (2 ^ x5_1.toNat)) = ji11 := fun hle_ => by have h_ := hji11z hle_; rw [Int.one_mul] at h_; exact h_
  obtain ⟨ji12, hji12⟩ : ∃ j_ : Int, (wrap64 (64 + x5_1)) = j_ := ⟨_, rfl⟩
  replace H : (if 0 ≤ (ji12) then (if (ji12) < (l0.length : Int) then (if (rd l0 (ji12)) = 1 then (apogeeref01_value.l0 k1 l0 (Go.bits .or .u64 x4_1 (ji11)) (wrap64 (x5_1 + 1)) 0 (Go.bits .or .u64 x366001_1 (ji11))) else (apogeeref01_value.l0 k1 l0 x4_1 (wrap64 (x5_1 + 1)) 0 (Go.bits .or .u64 x366001_1 (ji11)))) else (none)) else (none)) = some (r1, r2) := by first | (rw [hji12] at H; exact H) | (simp only [hji12] at H ⊢; exact H)
  have hji12w : (IntKind.i64.wrap (64 + x5_1)) = ji12 := (i64_w _).trans hji12
  by_cases c13 : 0 ≤ (ji12)
  rotate_left
  ·rw [if_neg c13] at H
   exact absurd H (by simp)
  rw [if_pos c13] at H
  have c13b0 : decide (0 ≤ (ji12)) = true := decide_eq_true c13
  clear c13
  by_cases c14 : (ji12) < (l0.length : Int)
  rotate_left
  ·rw [if_neg c14] at H
   exact absurd H (by simp)
  rw [if_pos c14] at H
  have c14b0 : decide ((ji12) < (l0.length : Int)) = true := decide_eq_true c14
  clear c14
  by_cases c15 : (rd l0 (ji12)) = 1
  ·rw [if_pos c15] at H
   have c15b0 : ((rd l0 (ji12)) == 1) = true := beq_iff_eq.mpr c15
   have c15b1 : ((rd l0 (ji12)) != 1) = false := bne_eq_false_iff_eq.mpr c15
   clear c15
   have c16b0 := eq_true (bo : 0 ≤ x5_1)
   have H' := bA H
   clear H
   have p366 : 0 ≤ (x5_1 : Int) := bo
   have q366 : x5_1 < (l0.length : Int) := bo
   obtain ⟨ad366, e366, hx366_0⟩ := Kd.at_int HR0.out x5_1 p366 q366
   cases e366
   replace hx366_0 := bK hx366_0
   replace p366 := eq_true p366
   replace q366 := eq_true q366
   try go_wp2
   replace BK364 := bA (blk_drew BK364.out)
   replace BK365 := bA (blk_drew BK365.out)
   replace HB := bA (below_drew1 HB.out)
   refine start_ (n := 7) (S := fun w' => w'.cell? ⟨gb365, 0, none⟩ = some (.int .i64 0) ∧ w'.cell? ⟨gb365, 1, none⟩ = some (.int .u64 x366001_1)) (ds := [6]) #[false, false, false, false, false, false, false] (by kernel_rfl) rfl rfl ⟨bq BK365 0, bq BK365 1⟩ (fun hHeld => ?_)
   generalize wr.drew = w17 at BK364 BK365 HB hHeld ⊢
   refine pure_ (i := 0) (N := some 16) (v := ?_) (a' := ?_) #[true, false, false, false, false, false, false] rfl rfl (by kernel_rfl) (fun _ _ _ h => h) (Or.inl ⟨by rfl, ?_⟩) ?_ ?_
   rotate_left
   ·intro w'
    go_simp
    with_reducible rfl
   rotate_left
   ·simp only [Act.put, List.setIfInBounds_toArray, List.set_cons_zero, List.set_cons_succ, i64_w, i32_w]
    rfl
   refine pure_ (i := 2) (N := some 18) (v := ?_) (a' := ?_) #[true, false, true, false, false, false, false] rfl rfl (by kernel_rfl) (fun _ _ _ h => h) (Or.inl ⟨by rfl, ?_⟩) ?_ ?_
   rotate_left
   ·intro w'
    go_simp
    with_reducible rfl
   rotate_left
   ·simp only [Act.put, List.setIfInBounds_toArray, List.set_cons_zero, List.set_cons_succ, i64_w, i32_w]
    rfl
   refine pure_ (i := 3) (N := some 19) (v := ?_) (a' := ?_) #[true, false, true, true, false, false, false] rfl rfl (by kernel_rfl) (fun _ _ _ h => h) (Or.inl ⟨by rfl, ?_⟩) ?_ ?_
   rotate_left
   ·intro w'
    go_simp
    with_reducible rfl
   rotate_left
   ·simp only [Act.put, List.setIfInBounds_toArray, List.set_cons_zero, List.set_cons_succ, i64_w, i32_w]
    rfl
   refine take_ (i := 1) (N := some 17) (v := ?_) (a' := ?_) #[true, true, true, true, false, false, false] rfl rfl (by kernel_rfl) (fun _ _ _ h => h) (Or.inl ⟨by rfl, ?_⟩) hHeld ?_ ?_
   rotate_left
   ·rintro w' ⟨s0, s1⟩
    go_simp
    with_reducible rfl
   rotate_left
   ·simp only [Act.put, List.setIfInBounds_toArray, List.set_cons_zero, List.set_cons_succ, i64_w, i32_w]
    rfl
   refine pure_ (i := 4) (N := some 20) (v := ?_) (a' := ?_) #[true, true, true, true, true, false, false] rfl rfl (by kernel_rfl) (fun _ _ _ h => h) (Or.inl ⟨by rfl, ?_⟩) ?_ ?_
   rotate_left
   ·intro w'
    go_simp
    with_reducible rfl
   rotate_left
   ·simp only [Act.put, List.setIfInBounds_toArray, List.set_cons_zero, List.set_cons_succ, i64_w, i32_w]
    rfl
   refine pure_ (i := 5) (N := some 21) (v := ?_) (a' := ?_) #[true, true, true, true, true, true, false] rfl rfl (by kernel_rfl) (fun _ _ _ h => h) (Or.inl ⟨by rfl, ?_⟩) ?_ ?_
   rotate_left
   ·intro w'
    go_simp
    with_reducible rfl
   rotate_left
   ·simp only [Act.put, List.setIfInBounds_toArray, List.set_cons_zero, List.set_cons_succ, i64_w, i32_w]
    rfl
   refine last_ (i := 6) (N := none) #[true, true, true, true, true, true, true] rfl rfl (by kernel_rfl) (by decide) (fun K hK => ?_)
   have hs18 : w17.cell? ⟨gb365, 1, none⟩ = some (.int .u64 x366001_1) := bq BK365 1
   have hfs18 := blk_frozen BK365.out 1
   have hns18_0 := NB364_365.out
   have hms18_0 := NB365_364.out
   refine skip_ (w1 := ?_) (by rfl) rfl ?_ ?_
   rotate_left
   ·go_simp
    rfl
   refine hK.out _ _ ?_
   clear hK K
   refine done_ (by kernel_rfl) ?_
   have p367 : 0 ≤ ((ji12) : Int) := bo
   have q367 : (ji12) < (l0.length : Int) := bo
   obtain ⟨ad367, e367, hx367_0⟩ := Kd.at_int HR0.out (ji12) p367 q367
   obtain rfl : ad366 = ad367 := (by injection e367)
   have hn367_0 : ad366.block ≠ gb365 := Nat.ne_of_lt (Nat.lt_of_lt_of_le (by have := World.block_lt_of_cell? _ _ hx367_0; first | rwa [add_block] at this | exact this) GW365.out)
   replace hx367_0 := bK hx367_0
   replace hx367_0 := (cell_far (p := ⟨gb365, 1, none⟩) (by first | (rw [add_block]; exact hn367_0) | (show (Addr.add _ _).block ≠ _; rw [add_block]; exact hn367_0) | exact hn367_0) (.int .u64 (Go.bits .or .u64 x366001_1 (ji11)))).trans hx367_0
   clear hn367_0
   replace p367 := eq_true p367
   replace q367 := eq_true q367
   try go_wp2
   go_roundg k1
   case measure => have := HK1.out; omega
   case rel => exact ⟨(Go.bits .or .u64 x4_1 (ji11)), (wrap64 (x5_1 + 1)), (Go.bits .or .u64 x366001_1 (ji11)), (by first | rfl | (simp; done) | (simp only [← hji11] <;> (first | rfl | simp)) | (simp [*]; done)), bs, H', ⟨by have := HK1.out; omega⟩, ⟨by (with_reducible repeat (first | refine blk_drewN ?_ _ | refine blk_drew ?_ | refine blk_alloc ?_ _)); refine blk_far ?_ NB364_365.out _; (with_reducible repeat (first | refine blk_drewN ?_ _ | refine blk_drew ?_ | refine blk_alloc ?_ _)); exact BK364.out⟩, ⟨by (with_reducible repeat (first | refine blk_drewN ?_ _ | refine blk_drew ?_ | refine blk_alloc ?_ _)); refine blk_put (cs := #[.int .i64 0, .int .u64 x366001_1]) ?_ 1 _ rfl; (with_reducible repeat (first | refine blk_drewN ?_ _ | refine blk_drew ?_ | refine blk_alloc ?_ _)); exact BK365.out⟩, ⟨bX⟩⟩
  rw [if_neg c15] at H
  have c15b0 : ((rd l0 (ji12)) == 1) = false := beq_eq_false_iff_ne.mpr c15
  have c15b1 : ((rd l0 (ji12)) != 1) = true := bne_iff_ne.mpr c15
  have H' := bA H
  clear H
  have p366 : 0 ≤ (x5_1 : Int) := bo
  have q366 : x5_1 < (l0.length : Int) := bo
  obtain ⟨ad366, e366, hx366_0⟩ := Kd.at_int HR0.out x5_1 p366 q366
  cases e366
  replace hx366_0 := bK hx366_0
  replace p366 := eq_true p366
  replace q366 := eq_true q366
  try go_wp2
  replace BK364 := bA (blk_drew BK364.out)
  replace BK365 := bA (blk_drew BK365.out)
  replace HB := bA (below_drew1 HB.out)
  refine start_ (n := 7) (S := fun w' => w'.cell? ⟨gb365, 0, none⟩ = some (.int .i64 0) ∧ w'.cell? ⟨gb365, 1, none⟩ = some (.int .u64 x366001_1)) (ds := [6]) #[false, false, false, false, false, false, false] (by kernel_rfl) rfl rfl ⟨bq BK365 0, bq BK365 1⟩ (fun hHeld => ?_)
  generalize wr.drew = w19 at BK364 BK365 HB hHeld ⊢
  refine pure_ (i := 0) (N := some 16) (v := ?_) (a' := ?_) #[true, false, false, false, false, false, false] rfl rfl (by kernel_rfl) (fun _ _ _ h => h) (Or.inl ⟨by rfl, ?_⟩) ?_ ?_
  rotate_left
  ·intro w'
   go_simp
   with_reducible rfl
  rotate_left
  ·simp only [Act.put, List.setIfInBounds_toArray, List.set_cons_zero, List.set_cons_succ, i64_w, i32_w]
   rfl
  refine pure_ (i := 2) (N := some 18) (v := ?_) (a' := ?_) #[true, false, true, false, false, false, false] rfl rfl (by kernel_rfl) (fun _ _ _ h => h) (Or.inl ⟨by rfl, ?_⟩) ?_ ?_
  rotate_left
  ·intro w'
   go_simp
   with_reducible rfl
  rotate_left
  ·simp only [Act.put, List.setIfInBounds_toArray, List.set_cons_zero, List.set_cons_succ, i64_w, i32_w]
   rfl
  refine pure_ (i := 3) (N := some 19) (v := ?_) (a' := ?_) #[true, false, true, true, false, false, false] rfl rfl (by kernel_rfl) (fun _ _ _ h => h) (Or.inl ⟨by rfl, ?_⟩) ?_ ?_
  rotate_left
  ·intro w'
   go_simp
   with_reducible rfl
  rotate_left
  ·simp only [Act.put, List.setIfInBounds_toArray, List.set_cons_zero, List.set_cons_succ, i64_w, i32_w]
   rfl
  refine take_ (i := 1) (N := some 17) (v := ?_) (a' := ?_) #[true, true, true, true, false, false, false] rfl rfl (by kernel_rfl) (fun _ _ _ h => h) (Or.inl ⟨by rfl, ?_⟩) hHeld ?_ ?_
  rotate_left
  ·rintro w' ⟨s0, s1⟩
   go_simp
   with_reducible rfl
  rotate_left
  ·simp only [Act.put, List.setIfInBounds_toArray, List.set_cons_zero, List.set_cons_succ, i64_w, i32_w]
   rfl
  refine pure_ (i := 4) (N := some 20) (v := ?_) (a' := ?_) #[true, true, true, true, true, false, false] rfl rfl (by kernel_rfl) (fun _ _ _ h => h) (Or.inl ⟨by rfl, ?_⟩) ?_ ?_
  rotate_left
  ·intro w'
   go_simp
   with_reducible rfl
  rotate_left
  ·simp only [Act.put, List.setIfInBounds_toArray, List.set_cons_zero, List.set_cons_succ, i64_w, i32_w]
   rfl
  refine pure_ (i := 5) (N := some 21) (v := ?_) (a' := ?_) #[true, true, true, true, true, true, false] rfl rfl (by kernel_rfl) (fun _ _ _ h => h) (Or.inl ⟨by rfl, ?_⟩) ?_ ?_
  rotate_left
  ·intro w'
   go_simp
   with_reducible rfl
  rotate_left
  ·simp only [Act.put, List.setIfInBounds_toArray, List.set_cons_zero, List.set_cons_succ, i64_w, i32_w]
   rfl
  refine last_ (i := 6) (N := none) #[true, true, true, true, true, true, true] rfl rfl (by kernel_rfl) (by decide) (fun K hK => ?_)
  have hs20 : w19.cell? ⟨gb365, 1, none⟩ = some (.int .u64 x366001_1) := bq BK365 1
  have hfs20 := blk_frozen BK365.out 1
  have hns20_0 := NB364_365.out
  have hms20_0 := NB365_364.out
  refine skip_ (w1 := ?_) (by rfl) rfl ?_ ?_
  rotate_left
  ·go_simp
   rfl
  refine hK.out _ _ ?_
  clear hK K
  refine done_ (by kernel_rfl) ?_
  have p367 : 0 ≤ ((ji12) : Int) := bo
  have q367 : (ji12) < (l0.length : Int) := bo
  obtain ⟨ad367, e367, hx367_0⟩ := Kd.at_int HR0.out (ji12) p367 q367
  obtain rfl : ad366 = ad367 := (by injection e367)
  have hn367_0 : ad366.block ≠ gb365 := Nat.ne_of_lt (Nat.lt_of_lt_of_le (by have := World.block_lt_of_cell? _ _ hx367_0; first | rwa [add_block] at this | exact this) GW365.out)
  replace hx367_0 := bK hx367_0
  replace hx367_0 := (cell_far (p := ⟨gb365, 1, none⟩) (by first | (rw [add_block]; exact hn367_0) | (show (Addr.add _ _).block ≠ _; rw [add_block]; exact hn367_0) | exact hn367_0) (.int .u64 (Go.bits .or .u64 x366001_1 (ji11)))).trans hx367_0
  clear hn367_0
  replace p367 := eq_true p367
  replace q367 := eq_true q367
  try go_wp2
  go_roundg k1
  case measure => have := HK1.out; omega
  case rel => exact ⟨(x4_1), (wrap64 (x5_1 + 1)), (Go.bits .or .u64 x366001_1 (ji11)), bs, bs, H', ⟨by have := HK1.out; omega⟩, ⟨by (with_reducible repeat (first | refine blk_drewN ?_ _ | refine blk_drew ?_ | refine blk_alloc ?_ _)); refine blk_far ?_ NB364_365.out _; (with_reducible repeat (first | refine blk_drewN ?_ _ | refine blk_drew ?_ | refine blk_alloc ?_ _)); exact BK364.out⟩, ⟨by (with_reducible repeat (first | refine blk_drewN ?_ _ | refine blk_drew ?_ | refine blk_alloc ?_ _)); refine blk_put (cs := #[.int .i64 0, .int .u64 x366001_1]) ?_ 1 _ rfl; (with_reducible repeat (first | refine blk_drewN ?_ _ | refine blk_drew ?_ | refine blk_alloc ?_ _)); exact BK365.out⟩, ⟨bX⟩⟩
/-! ### apogeeref01_plus: function 109 -/
def apogeeref01_plus.l0 : Nat → List Int → List Int → List Int → Int → Int → Option (Int × Int)
 | 0, _, _, _, _, _ => none
 | k + 1, x5, x6, x7, x8, x9 => if x9 < 128 then (if 0 ≤ x9 then (if x9 < (x5.length : Int) then (if x9 < (x6.length : Int) then (if x7.length < 17592186044416 then (apogeeref01_plus.l0 k x5 x6 (x7 ++ [Int.tmod (wrap64 ((wrap64 ((rd x5 x9) + (rd x6 x9))) + x8)) 2]) (wrap64 (Int.tdiv (wrap64 ((wrap64 ((rd x5 x9) + (rd x6 x9))) + x8)) 2)) (wrap64 (x9 + 1))) else (none)) else (none)) else (none)) else (none)) else ((apogeeref01_value.f k x7).bind fun bt383 => (some (bt383.1, bt383.2)))
def apogeeref01_plus.f (k : Nat) (a0_0 : Int) (a0_1 : Int) (a1_0 : Int) (a1_1 : Int) : Option (Int × Int) := (apogeeref01_bits.f k a0_0 a0_1).bind fun t372 => ((apogeeref01_bits.f k a1_0 a1_1).bind fun t375 => (apogeeref01_plus.l0 k t372 t375 ([] : List Int) 0 0))
theorem apogeeref01_plus.mono_l : ∀ k, (∀ y0 y1 y2 y3 y4, LeO (apogeeref01_plus.l0 k y0 y1 y2 y3 y4) (apogeeref01_plus.l0 (k + 1) y0 y1 y2 y3 y4))
 | 0 => fun _ _ _ _ _ r h => by simp [apogeeref01_plus.l0] at h
 | k + 1 => by
  have ih0 := apogeeref01_plus.mono_l k
  ·intro y0 y1 y2 y3 y4
   unfold apogeeref01_plus.l0
   have m0_ := @apogeeref01_bits.mono
   have m1_ := @apogeeref01_value.mono
   exact bMo
theorem apogeeref01_plus.mono : ∀ a0 a1 a2 a3 k, LeO (apogeeref01_plus.f k a0 a1 a2 a3) (apogeeref01_plus.f (k + 1) a0 a1 a2 a3) := by
 intro a0 a1 a2 a3 k
 have ih0 := apogeeref01_plus.mono_l k
 unfold apogeeref01_plus.f
 have m0_ := @apogeeref01_bits.mono
 have m1_ := @apogeeref01_value.mono
 exact bMo
def apogeeref01_plus.T7 : Bool × List (List Nat × List Nat) := (true, [([], []), ([], []), ([0, 1], [0, 1]), ([2], [2]), ([], []), ([], []), ([4, 5], [4, 5]), ([6], [6]), ([3, 7], [3, 7]), ([], []), ([8, 9], [8, 9]), ([10, 0, 1, 2, 3, 4, 5, 6, 7, 8, 9, 10], [10])])
def apogeeref01_plus.B7 : List Nat := [0, 0, 3, 7, 0, 0, 48, 112, 255, 0, 1023, 2047]
theorem apogeeref01_plus.tab7 : rtab .any (opsOf Try.f109 7) = apogeeref01_plus.T7 := by kernel_rfl
theorem apogeeref01_plus.bits7 : waitsOk apogeeref01_plus.T7.2 apogeeref01_plus.B7 = true := by kernel_rfl
set_option maxHeartbeats 8000000 in
set_option maxRecDepth 100000 in
theorem apogeeref01_plus.calls (k : Nat) (a0_0 : Int) (a0_1 : Int) (a1_0 : Int) (a1_1 : Int) (r1 : Int) (r2 : Int) (w : World) (h : apogeeref01_plus.f k a0_0 a0_1 a1_0 a1_1 = some (r1, r2)) :
  Calls Try.prog 109 #[.agg #[.int .i64 a0_0, .int .u64 a0_1], .agg #[.int .i64 a1_0, .int .u64 a1_1]] w fun e w' => e = .returned (.agg #[.int .i64 r1, .int .u64 r2]) ∧ Below w.heap.size w w' := by
 have hu90 := Try.underlying90
 have HB := bA (Below.refl w.heap.size w)
 have H : ((apogeeref01_bits.f k a0_0 a0_1).bind fun t372 => ((apogeeref01_bits.f k a1_0 a1_1).bind fun t375 => (apogeeref01_plus.l0 k t372 t375 ([] : List Int) 0 0))) = some (r1, r2) := h
 clear h
 replace H := Option.bind_eq_some_iff.mp H
 obtain ⟨t372, A30, H⟩ := H
 have A3 := bA A30
 clear A30
 replace H := Option.bind_eq_some_iff.mp H
 obtain ⟨t375, A40, H⟩ := H
 have A4 := bA A40
 clear A40
 have H' := bA H
 clear H
 go_enter Try.func109, Try.ntmps109
 try go_wp2_with (first | ((with_reducible refine gate_dst (N := 2) rfl ?_); refine bE (N := 2) (cs := #[.int .i64 a0_0, .int .u64 a0_1]) (t := 90) ?_; intro gb369 hg w5 hbox hb; have BK369 := bA (hbox); have GW369 := bA (bZ hg); have GE369 := bA (bZ hg); replace HB := bA (bS hb); clear hb hbox hg) | ((with_reducible refine gate_dst (N := 3) rfl ?_); refine bE (N := 3) (cs := #[.int .i64 a1_0, .int .u64 a1_1]) (t := 90) ?_; intro gb370 hg w6 hbox hb; have BK370 := bA (hbox); have GW370 := bA (bZ hg); have GE370 := bA (bZ hg); have NB369_370 := bA (bL BK369 hg); have NB370_369 := bA (bG BK369 hg); replace BK369 := bA (bB BK369 hb); replace HB := bA (bS hb); clear hb hbox hg) | ((with_reducible refine gate_dst (N := 4) rfl ?_); refine bE (N := 4) (cs := #[.int .i64 0, .int .u64 0]) (t := 90) ?_; intro gb371 hg w7 hbox hb; have BK371 := bA (hbox); have GW371 := bA (bZ hg); have GE371 := bA (bZ hg); have NB369_371 := bA (bL BK369 hg); have NB371_369 := bA (bG BK369 hg); have NB370_371 := bA (bL BK370 hg); have NB371_370 := bA (bG BK370 hg); replace BK369 := bA (bB BK369 hb); replace BK370 := bA (bB BK370 hb); replace HB := bA (bS hb); clear hb hbox hg))
 replace BK369 := bA (blk_drew BK369.out)
 replace BK370 := bA (blk_drew BK370.out)
 replace BK371 := bA (blk_drew BK371.out)
 replace HB := bA (below_drew1 HB.out)
 refine start_ (n := 6) (S := fun w' => w'.cell? ⟨gb369, 0, none⟩ = some (.int .i64 a0_0) ∧ w'.cell? ⟨gb369, 1, none⟩ = some (.int .u64 a0_1) ∧ w'.cell? ⟨gb370, 0, none⟩ = some (.int .i64 a1_0) ∧ w'.cell? ⟨gb370, 1, none⟩ = some (.int .u64 a1_1)) (ds := []) #[false, false, false, false, false, false] (by kernel_rfl) rfl rfl ⟨bq BK369 0, bq BK369 1, bq BK370 0, bq BK370 1⟩ (fun hHeld => ?_)
 generalize w7.drew = w8 at BK369 BK370 BK371 HB hHeld ⊢
 refine take_ (i := 0) (N := some 11) (v := ?_) (a' := ?_) #[true, false, false, false, false, false] rfl rfl (by kernel_rfl) (fun _ _ _ h => h) (Or.inl ⟨by rfl, ?_⟩) hHeld ?_ ?_
 rotate_left
 ·rintro w' ⟨s0, s1, s2, s3⟩
  go_simp
  with_reducible rfl
 rotate_left
 ·simp only [Act.put, List.setIfInBounds_toArray, List.set_cons_zero, List.set_cons_succ, i64_w, i32_w]
  rfl
 refine take_ (i := 2) (N := some 13) (v := ?_) (a' := ?_) #[true, false, true, false, false, false] rfl rfl (by kernel_rfl) (fun _ _ _ h => h) (Or.inl ⟨by rfl, ?_⟩) hHeld ?_ ?_
 rotate_left
 ·rintro w' ⟨s0, s1, s2, s3⟩
  go_simp
  with_reducible rfl
 rotate_left
 ·simp only [Act.put, List.setIfInBounds_toArray, List.set_cons_zero, List.set_cons_succ, i64_w, i32_w]
  rfl
 refine one_ (i := 1) (N := some 12) #[true, true, true, false, false, false] rfl rfl (by kernel_rfl) (by decide) (fun K hK => ?_)
 refine goes_ Try.func118 (by kernel_rfl) rfl #[.agg #[.int .i64 a0_0, .int .u64 a0_1]] (by rfl) rfl rfl (by (try simp only [List.map_toArray, List.map_cons, List.map_nil]); first | done | rfl | (simp only [List.length_drop, List.length_take]; rfl)) ?_
 with_reducible refine (apogeeref01_bits.calls k a0_0 a0_1 t372 _ A3.out).mono ?_
 rintro e w9 ⟨v373, rfl, ho0, hb⟩
 refine ⟨_, rfl, ?_⟩
 have HO374 := bA (Kd.R_lower ho0 bY)
 replace BK369 := bA (bB BK369 hb)
 replace BK370 := bA (bB BK370 hb)
 replace BK371 := bA (bB BK371 hb)
 replace HB := bA (bS hb)
 (try clear hb)
 (try clear ho0)
 refine hK.out _ _ ⟨bq BK369 0, bq BK369 1, bq BK370 0, bq BK370 1⟩ (fun hHeld => ?_)
 clear hK K
 refine bI 12 ?_
 refine one_ (i := 3) (N := some 14) #[true, true, true, true, false, false] rfl rfl (by kernel_rfl) (by decide) (fun K hK => ?_)
 refine goes_ Try.func118 (by kernel_rfl) rfl #[.agg #[.int .i64 a1_0, .int .u64 a1_1]] (by rfl) rfl rfl (by (try simp only [List.map_toArray, List.map_cons, List.map_nil]); first | done | rfl | (simp only [List.length_drop, List.length_take]; rfl)) ?_
 with_reducible refine (apogeeref01_bits.calls k a1_0 a1_1 t375 _ A4.out).mono ?_
 rintro e w10 ⟨v376, rfl, ho0, hb⟩
 refine ⟨_, rfl, ?_⟩
 have HO377 := bA (Kd.R_lower (Kd.R_new' ho0 (Kd.R_lt (bRr HO374))) bY)
 replace HO374 := bA (Kd.R_elder' (bRr HO374) (Kd.R_base ho0) hb)
 replace BK369 := bA (bB BK369 hb)
 replace BK370 := bA (bB BK370 hb)
 replace BK371 := bA (bB BK371 hb)
 replace HB := bA (bS hb)
 (try clear hb)
 (try clear ho0)
 refine hK.out _ _ ⟨bq BK369 0, bq BK369 1, bq BK370 0, bq BK370 1⟩ (fun hHeld => ?_)
 clear hK K
 refine bI 14 ?_
 refine pure_ (i := 4) (N := some 5) (v := ?_) (a' := ?_) #[true, true, true, true, true, false] rfl rfl (by kernel_rfl) (fun _ _ _ h => h) (Or.inl ⟨by rfl, ?_⟩) ?_ ?_
 rotate_left
 ·intro w'
  go_simp
  with_reducible rfl
 rotate_left
 ·simp only [Act.put, List.setIfInBounds_toArray, List.set_cons_zero, List.set_cons_succ, i64_w, i32_w]
  rfl
 refine pure_ (i := 5) (N := some 6) (v := ?_) (a' := ?_) #[true, true, true, true, true, true] rfl rfl (by kernel_rfl) (fun _ _ _ h => h) (Or.inl ⟨by rfl, ?_⟩) ?_ ?_
 rotate_left
 ·intro w'
  go_simp
  with_reducible rfl
 rotate_left
 ·simp only [Act.put, List.setIfInBounds_toArray, List.set_cons_zero, List.set_cons_succ, i64_w, i32_w]
  rfl
 refine done_ (by kernel_rfl) ?_
 try go_wp2
 go_loopg [7, 8, 9] k (fun kq v7 v8 v9 w' => ∃ (x7_1 : List Int) (x8_1 : Int) (x9_1 : Int), v8 = .int .i64 x8_1 ∧ v9 = .int .i64 x9_1 ∧ Aside0 (apogeeref01_plus.l0 kq t372 t375 x7_1 x8_1 x9_1 = some (r1, r2)) ∧ Aside0 (kq ≤ k) ∧ Aside0 (Kd.R (Kd.int .i64) 3 w' w.heap.size (fun k_ => some k_ ≠ (v376 : Value).ownBlock ∧ some k_ ≠ (v7 : Value).ownBlock) v373 t372) ∧ Aside0 (Kd.R (Kd.int .i64) 3 w' w.heap.size (fun k_ => some k_ ≠ (v373 : Value).ownBlock ∧ some k_ ≠ (v7 : Value).ownBlock) v376 t375) ∧ Aside0 (Kd.R (Kd.int .i64) 3 w' w.heap.size (fun k_ => some k_ ≠ (v373 : Value).ownBlock ∧ some k_ ≠ (v376 : Value).ownBlock) v7 x7_1) ∧ Aside0 (w'.heap[gb369]? = some (.cells #[.int .i64 a0_0, .int .u64 a0_1] 90 (0, 0))) ∧ Aside0 (w'.heap[gb370]? = some (.cells #[.int .i64 a1_0, .int .u64 a1_1] 90 (0, 0))) ∧ Aside0 (w'.heap[gb371]? = some (.cells #[.int .i64 0, .int .u64 0] 90 (0, 0))) ∧ Aside0 (Below w.heap.size w w'))
 case atStart => exact ⟨(([] : List Int)), (0), (0), bs, bs, H', ⟨Nat.le_refl _⟩, ⟨by (with_reducible repeat (first | apply Kd.R_alloc | apply Kd.R_drewN | apply Kd.R_drew)); exact Kd.R_mono HO374.out (fun _ hk => ⟨hk.2, (by simp [Value.ownBlock])⟩)⟩, ⟨by (with_reducible repeat (first | apply Kd.R_alloc | apply Kd.R_drewN | apply Kd.R_drew)); exact Kd.R_mono HO377.out (fun _ hk => ⟨hk.2, (by simp [Value.ownBlock])⟩)⟩, ⟨by first | exact Kd.R_nil _ _ _ _ _ | exact Kd.N_nil _ _ _ _ _ | exact Kd.V_nil _ _ _ _ _ | exact Kd.Q_nil _ _ _ _ _ | exact Kd.S_nil _ _ _ _ _⟩, ⟨by (with_reducible repeat (first | refine blk_drewN ?_ _ | refine blk_drew ?_ | refine blk_alloc ?_ _)); exact BK369.out⟩, ⟨by (with_reducible repeat (first | refine blk_drewN ?_ _ | refine blk_drew ?_ | refine blk_alloc ?_ _)); exact BK370.out⟩, ⟨by (with_reducible repeat (first | refine blk_drewN ?_ _ | refine blk_drew ?_ | refine blk_alloc ?_ _)); exact BK371.out⟩, ⟨bX⟩⟩
 clear H'
 try clear c1
 try clear p2
 try clear c10
 obtain ⟨x7_1, x8_1, x9_1, rfl, rfl, HA, HK1, HO_5, HO_6, HO_7, BK369, BK370, BK371, HB⟩ := hrel
 cases gk with
 | zero => exact absurd HA.out (by simp [apogeeref01_plus.l0])
 | succ k1 =>
  have H := HA.out
  clear HA
  simp only [apogeeref01_plus.l0] at H
  by_cases c11 : x9_1 < 128
  rotate_left
  ·rw [if_neg c11] at H
   have c11b0 : decide (x9_1 < 128) = false := decide_eq_false c11
   clear c11
   replace H := Option.bind_eq_some_iff.mp H
   obtain ⟨⟨t383, t384⟩, A200, H⟩ := H
   replace H : (some (t383, t384)) = some (r1, r2) := H
   have A20 := bA A200
   clear A200
   simp only [Option.some.injEq, Prod.mk.injEq] at H
   obtain ⟨rfl, rfl⟩ := H
   obtain ⟨Ao21, co21, eo21⟩ := Kd.R_slice HO_7.out
   subst eo21
   go_wp2_with (first | ((first | ((with_reducible refine gate_callee (f := 119) rfl ?_); refine bC (some 38) Try.func119 #[.slice Ao21 x7_1.length co21] ?_) | go_at_call 119); (with_reducible refine (apogeeref01_value.calls k1 _ _ x7_1 t383 t384 _ ?side1 ?side2 A20.out).mono ?_); (case side1 => repeat (first | exact (Kd.R_reads' HO_7.out).2.2 | (with_reducible refine Kd.C_alloc ?_ _) | (with_reducible refine Kd.C_drewN ?_ _) | (with_reducible refine Kd.C_drew ?_))); (case side2 => exact (Kd.R_reads' HO_7.out).2.1); rintro e w22 ⟨rfl, hb⟩; (first | refine ⟨_, rfl, ?_⟩ | skip); replace HO_5 := bA (Kd.R_below (bRr HO_5) hb); replace HO_6 := bA (Kd.R_below (bRr HO_6) hb); replace HO_7 := bA (Kd.R_below (bRr HO_7) hb); replace BK369 := bA (bB BK369 hb); replace BK370 := bA (bB BK370 hb); replace BK371 := bA (bB BK371 hb); replace HB := bA (bS hb); (try clear hb); have hnb23 := NB371_369.out; have hnc23 := NB369_371.out; have hnb24 := NB371_370.out; have hnc24 := NB370_371.out; obtain ⟨hcz25_0, hcz25_1, hfz25_0, hfz25_1⟩ := bc2 BK371))
   refine bodyPost_ret (results_cell_row rfl _ _ gb371 90 #[.int .i64 t383, .int .u64 t384] (0, 0) _ rfl (by (with_reducible repeat (first | refine blk_drewN ?_ _ | refine blk_drew ?_ | refine blk_alloc ?_ _)); refine blk_put (cs := #[.int .i64 t383, .int .u64 0]) ?_ 1 _ rfl; (with_reducible repeat (first | refine blk_drewN ?_ _ | refine blk_drew ?_ | refine blk_alloc ?_ _)); refine blk_put (cs := #[.int .i64 0, .int .u64 0]) ?_ 0 _ rfl; (with_reducible repeat (first | refine blk_drewN ?_ _ | refine blk_drew ?_ | refine blk_alloc ?_ _)); exact BK371.out) Try.underlying90 rfl (by kernel_rfl)) rfl ?_
   exact bF
  rw [if_pos c11] at H
  have c11b0 : decide (x9_1 < 128) = true := decide_eq_true c11
  clear c11
  by_cases c12 : 0 ≤ x9_1
  rotate_left
  ·rw [if_neg c12] at H
   exact absurd H (by simp)
  rw [if_pos c12] at H
  have c12b0 : decide (0 ≤ x9_1) = true := decide_eq_true c12
  clear c12
  by_cases c13 : x9_1 < (t372.length : Int)
  rotate_left
  ·rw [if_neg c13] at H
   exact absurd H (by simp)
  rw [if_pos c13] at H
  have c13b0 : decide (x9_1 < (t372.length : Int)) = true := decide_eq_true c13
  clear c13
  by_cases c14 : x9_1 < (t375.length : Int)
  rotate_left
  ·rw [if_neg c14] at H
   exact absurd H (by simp)
  rw [if_pos c14] at H
  have c14b0 : decide (x9_1 < (t375.length : Int)) = true := decide_eq_true c14
  clear c14
  by_cases c15 : x7_1.length < 17592186044416
  rotate_left
  ·rw [if_neg c15] at H
   exact absurd H (by simp)
  rw [if_pos c15] at H
  have LMc15 := bA c15
  clear c15
  obtain ⟨y380, hy380⟩ : ∃ y_ : List Int, y_ = (x7_1 ++ [Int.tmod (wrap64 ((wrap64 ((rd t372 x9_1) + (rd t375 x9_1))) + x8_1)) 2]) := ⟨_, rfl⟩
  replace H : (apogeeref01_plus.l0 k1 t372 t375 y380 (wrap64 (Int.tdiv (wrap64 ((wrap64 ((rd t372 x9_1) + (rd t375 x9_1))) + x8_1)) 2)) (wrap64 (x9_1 + 1))) = some (r1, r2) := by first | (rw [hy380]; with_reducible exact H) | (have H2_ := (Option.bind_some _ _).symm.trans H; rw [hy380]; with_reducible exact H2_) | (have H2_ := (Option.bind_some _ _).symm.trans H; with_reducible exact H2_) | with_reducible exact H | (rw [hy380]; exact H) | exact H
  have Ny380 := bA hy380
  clear hy380
  have H' := bA H
  clear H
  try go_wp2
  replace HO_5 := bA (Kd.R_drew HO_5.out)
  replace HO_6 := bA (Kd.R_drew HO_6.out)
  replace HO_7 := bA (Kd.R_drew HO_7.out)
  replace BK369 := bA (blk_drew BK369.out)
  replace BK370 := bA (blk_drew BK370.out)
  replace BK371 := bA (blk_drew BK371.out)
  replace HB := bA (below_drew1 HB.out)
  obtain ⟨Ao17, co17, eo17⟩ := Kd.R_slice HO_5.out
  (first | subst eo17 | (injection eo17 with f1_ f2_ f3_; have f4_ := f1_.symm; have f5_ := f3_.symm; clear f1_ f2_ f3_; subst f4_; subst f5_))
  have p378 : 0 ≤ (x9_1 : Int) := bo
  have q378 : x9_1 < (t372.length : Int) := bo
  obtain ⟨ad378, e378, hx378_0⟩ := Kd.at_int (Kd.R_reads' HO_5.out).2.2 x9_1 p378 q378
  cases e378
  replace p378 := eq_true p378
  replace q378 := eq_true q378
  obtain ⟨Ao18, co18, eo18⟩ := Kd.R_slice HO_6.out
  (first | subst eo18 | (injection eo18 with f1_ f2_ f3_; have f4_ := f1_.symm; have f5_ := f3_.symm; clear f1_ f2_ f3_; subst f4_; subst f5_))
  have p379 : 0 ≤ (x9_1 : Int) := bo
  have q379 : x9_1 < (t375.length : Int) := bo
  obtain ⟨ad379, e379, hx379_0⟩ := Kd.at_int (Kd.R_reads' HO_6.out).2.2 x9_1 p379 q379
  cases e379
  replace p379 := eq_true p379
  replace q379 := eq_true q379
  refine start_ (n := 12) (S := fun w' => w'.cell? (ad378.add (x9_1).toNat) = some (.int .i64 (rd t372 x9_1)) ∧ w'.cell? (ad379.add (x9_1).toNat) = some (.int .i64 (rd t375 x9_1))) (ds := []) #[false,false,false,false,false,false,false,false,false,false,false,false] (by kernel_rfl) rfl rfl ⟨hx378_0, hx379_0⟩ (fun hHeld => ?_); refine with_tabW apogeeref01_plus.tab7 apogeeref01_plus.bits7 (fun HT_ HW_ => ?_)
  generalize wr.drew = w16 at HO_5 HO_6 HO_7 BK369 BK370 BK371 HB hx378_0 hx379_0 hHeld ⊢
  refine bU (i := 0) (N := some 19) ?_
  refine bU (i := 1) (N := some 20) ?_
  refine bU (i := 2) (N := some 21) ?_
  refine bU (i := 4) (N := some 23) ?_
  refine bU (i := 5) (N := some 24) ?_
  refine bU (i := 6) (N := some 25) ?_
  refine bU (i := 9) (N := some 28) ?_
  refine bW (i := 3) (N := some 22) hHeld ?_
  refine bW (i := 7) (N := some 26) hHeld ?_
  refine bU (i := 8) (N := some 27) ?_
  refine bU (i := 10) (N := some 29) ?_
  refine bU (i := 11) (N := some 10) ?_
  refine done_ (done_of HT_.out (by kernel_rfl)) ?_
  try go_wp2_with (first | ((with_reducible refine gate_builtin (b := .append) (xs := #[.tmp 30, .tmp 33]) rfl ?_); at_builtin; refine Kd.R_append (Kd.int .i64) (w0 := w) w.heap.size rfl (.tmp 30) (.tmp 33) 122 3 (.int .i64 0) 8 rfl Try.underlying122 info3 rfl (by decide) (by omega) u7 x7_1 (Int.tmod (wrap64 ((wrap64 ((rd t372 x9_1) + (rd t375 x9_1))) + x8_1)) 2) [.int .i64 (Int.tmod (wrap64 ((wrap64 ((rd t372 x9_1) + (rd t375 x9_1))) + x8_1)) 2)] (fun k_ => some k_ ≠ (.slice (some ad378) t372.length co17 : Value).ownBlock ∧ some k_ ≠ (.slice (some ad379) t375.length co18 : Value).ownBlock) (fun _ => False) rfl rfl ?aP (fun _ hk => hk.elim) ?aF ?aO ?aB ?aS ?aL ?_; (case aP => exact rfl); (case aB => exact bX); (case aF => exact (fun k_ hk => ⟨Kd.fresh' (Kd.R_lt (bRr HO_5)) k_ hk, Kd.fresh' (Kd.R_lt (bRr HO_6)) k_ hk⟩)); (case aO => exact (bRr HO_7)); (case aS => exact bY); (case aL => have := LMc15.out; omega); intro v381 w19 ho hb hg hat; rw [← Ny380.out] at ho; have HO382 := bA (ho); replace HO_5 := bA (Kd.R_after (ok := (fun k_ => some k_ ≠ (.slice (some ad379) t375.length co18 : Value).ownBlock)) (bRr HO_5) hg hat); replace HO_6 := bA (Kd.R_after (ok := (fun k_ => some k_ ≠ (.slice (some ad378) t372.length co17 : Value).ownBlock)) (bRr HO_6) hg hat); replace BK369 := bA (blk_grown (g := gb369) (o := .cells #[.int .i64 a0_0, .int .u64 a0_1] 90 (0, 0)) (bP BK369) hg (Kd.R_ne HO_7.out BK369.out (by decide))); replace BK370 := bA (blk_grown (g := gb370) (o := .cells #[.int .i64 a1_0, .int .u64 a1_1] 90 (0, 0)) (bP BK370) hg (Kd.R_ne HO_7.out BK370.out (by decide))); replace BK371 := bA (blk_grown (g := gb371) (o := .cells #[.int .i64 0, .int .u64 0] 90 (0, 0)) (bP BK371) hg (Kd.R_ne HO_7.out BK371.out (by decide))); replace HB := bA (hb); clear HO_7; clear ho hb hg hat))
  go_roundg k1
  case measure => have := HK1.out; omega
  case rel => exact ⟨(y380), (wrap64 (Int.tdiv (wrap64 ((wrap64 ((rd t372 x9_1) + (rd t375 x9_1))) + x8_1)) 2)), (wrap64 (x9_1 + 1)), bs, bs, H', ⟨by have := HK1.out; omega⟩, ⟨bRr HO_5⟩, ⟨bRr HO_6⟩, ⟨bRr HO382⟩, ⟨by (with_reducible repeat (first | refine blk_drewN ?_ _ | refine blk_drew ?_ | refine blk_alloc ?_ _)); exact BK369.out⟩, ⟨by (with_reducible repeat (first | refine blk_drewN ?_ _ | refine blk_drew ?_ | refine blk_alloc ?_ _)); exact BK370.out⟩, ⟨by (with_reducible repeat (first | refine blk_drewN ?_ _ | refine blk_drew ?_ | refine blk_alloc ?_ _)); exact BK371.out⟩, ⟨bX⟩⟩
/-! ### apogeeref01_Flip: function 111 -/
def apogeeref01_Flip.f (k : Nat) (a0_0 : Int) (a0_1 : Int) : Option (Int × Int) := (apogeeref01_plus.f k (Go.bits .xor .i64 (-1) a0_0) (Go.bits .xor .u64 (-1) a0_1) 0 1).bind fun bt387 => (some (bt387.1, bt387.2))
theorem apogeeref01_Flip.mono : ∀ a0 a1 k, LeO (apogeeref01_Flip.f k a0 a1) (apogeeref01_Flip.f (k + 1) a0 a1) := by
 intro a0 a1 k
 unfold apogeeref01_Flip.f
 have m0_ := @apogeeref01_plus.mono
 exact bMo
set_option maxHeartbeats 8000000 in
set_option maxRecDepth 100000 in
theorem apogeeref01_Flip.calls (k : Nat) (a0_0 : Int) (a0_1 : Int) (r1 : Int) (r2 : Int) (w : World) (h : apogeeref01_Flip.f k a0_0 a0_1 = some (r1, r2)) :
  Calls Try.prog 111 #[.agg #[.int .i64 a0_0, .int .u64 a0_1]] w fun e w' => e = .returned (.agg #[.int .i64 r1, .int .u64 r2]) ∧ Below w.heap.size w w' := by
 have hu90 := Try.underlying90
 have HB := bA (Below.refl w.heap.size w)
 have H : ((apogeeref01_plus.f k (Go.bits .xor .i64 (-1) a0_0) (Go.bits .xor .u64 (-1) a0_1) 0 1).bind fun bt387 => (some (bt387.1, bt387.2))) = some (r1, r2) := h
 clear h
 replace H := Option.bind_eq_some_iff.mp H
 obtain ⟨⟨t387, t388⟩, A20, H⟩ := H
 replace H : (some (t387, t388)) = some (r1, r2) := H
 have A2 := bA A20
 clear A20
 simp only [Option.some.injEq, Prod.mk.injEq] at H
 obtain ⟨rfl, rfl⟩ := H
 go_enter Try.func111, Try.ntmps111
 go_wp2_with (first | ((with_reducible refine gate_dst (N := 1) rfl ?_); refine bE (N := 1) (cs := #[.int .i64 a0_0, .int .u64 a0_1]) (t := 90) ?_; intro gb385 hg w3 hbox hb; have BK385 := bA (hbox); have GW385 := bA (bZ hg); have GE385 := bA (bZ hg); replace HB := bA (bS hb); clear hb hbox hg) | ((with_reducible refine gate_dst (N := 2) rfl ?_); refine bE (N := 2) (cs := #[.int .i64 0, .int .u64 0]) (t := 90) ?_; intro gb386 hg w4 hbox hb; have BK386 := bA (hbox); have GW386 := bA (bZ hg); have GE386 := bA (bZ hg); have NB385_386 := bA (bL BK385 hg); have NB386_385 := bA (bG BK385 hg); replace BK385 := bA (bB BK385 hb); replace HB := bA (bS hb); clear hb hbox hg; have hnb5 := NB385_386.out; have hnc5 := NB386_385.out; obtain ⟨hcz6_0, hcz6_1, hfz6_0, hfz6_1⟩ := bc2 BK385) | ((first | ((with_reducible refine gate_callee (f := 109) rfl ?_); refine bC (some 11) Try.func109 #[.agg #[.int .i64 (Go.bits .xor .i64 (-1) a0_0), .int .u64 (Go.bits .xor .u64 (-1) a0_1)], .agg #[.int .i64 0, .int .u64 1]] ?_) | go_at_call 109); (with_reducible refine (apogeeref01_plus.calls k (Go.bits .xor .i64 (-1) a0_0) (Go.bits .xor .u64 (-1) a0_1) 0 1 t387 t388 _ A2.out).mono ?_); rintro e w7 ⟨rfl, hb⟩; (first | refine ⟨_, rfl, ?_⟩ | skip); replace BK385 := bA (bB BK385 hb); replace BK386 := bA (bB BK386 hb); replace HB := bA (bS hb); (try clear hb); obtain ⟨hcz8_0, hcz8_1, hfz8_0, hfz8_1⟩ := bc2 BK386))
 refine bodyPost_ret (results_cell_row rfl _ _ gb386 90 #[.int .i64 t387, .int .u64 t388] (0, 0) _ rfl (by (with_reducible repeat (first | refine blk_drewN ?_ _ | refine blk_drew ?_ | refine blk_alloc ?_ _)); refine blk_put (cs := #[.int .i64 t387, .int .u64 0]) ?_ 1 _ rfl; (with_reducible repeat (first | refine blk_drewN ?_ _ | refine blk_drew ?_ | refine blk_alloc ?_ _)); refine blk_put (cs := #[.int .i64 0, .int .u64 0]) ?_ 0 _ rfl; (with_reducible repeat (first | refine blk_drewN ?_ _ | refine blk_drew ?_ | refine blk_alloc ?_ _)); exact BK386.out) Try.underlying90 rfl (by kernel_rfl)) rfl ?_
 exact bF
end Go.Proofs.Ytjmibjmlihmglaa.G
