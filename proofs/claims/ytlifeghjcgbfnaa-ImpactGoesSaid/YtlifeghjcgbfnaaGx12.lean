-- Written by a program of this session out of the translation; Lean checks it.
import Derived.Test.YtlifeghjcgbfnaaGx0
import Derived.Test.YtlifeghjcgbfnaaGx11
namespace Go.Proofs.Ytlifeghjcgbfnaa.G
open Go.RowKit Go.Proofs.YtlifeghjcgbfnaaW.PrintWords Go.Proofs.YtlifeghjcgbfnaaW.PrintLast Go.Proofs.YtlifeghjcgbfnaaW.PrintMore
attribute [local go_sem] max2_int min2_int max_two min_two max_three min_three max_four min_four   -- for this text's walks alone
set_option linter.unusedVariables false
set_option linter.unusedSimpArgs false

/-! ### apogeeref01_value: function 75 -/
def apogeeref01_value.l0 : Nat → List Int → Int → Int → Int → Int → Option (Int × Int)
 | 0, _, _, _, _, _ => none
 | k + 1, x0, x4, x5, x304000, x304001 => if x5 < 64 then (if 0 ≤ x5 then (if x5 < (x0.length : Int) then (if (rd x0 x5) = 1 then (if 0 ≤ (wrap64 (64 + x5)) then (if (wrap64 (64 + x5)) < (x0.length : Int) then (if (rd x0 (wrap64 (64 + x5))) = 1 then (apogeeref01_value.l0 k x0 (Go.bits .or .u64 x4 (shl .u64 1 x5)) (wrap64 (x5 + 1)) x304000 (Go.bits .or .u64 x304001 (shl .u64 1 x5))) else (apogeeref01_value.l0 k x0 x4 (wrap64 (x5 + 1)) x304000 (Go.bits .or .u64 x304001 (shl .u64 1 x5)))) else (none)) else (none)) else (if 0 ≤ (wrap64 (64 + x5)) then (if (wrap64 (64 + x5)) < (x0.length : Int) then (if (rd x0 (wrap64 (64 + x5))) = 1 then (apogeeref01_value.l0 k x0 (Go.bits .or .u64 x4 (shl .u64 1 x5)) (wrap64 (x5 + 1)) x304000 x304001) else (apogeeref01_value.l0 k x0 x4 (wrap64 (x5 + 1)) x304000 x304001)) else (none)) else (none))) else (none)) else (none)) else (some (wrap64 (x4), x304001))
def apogeeref01_value.f (k : Nat) (l0 : List Int) : Option (Int × Int) := apogeeref01_value.l0 k l0 0 0 0 0
theorem apogeeref01_value.mono_l : ∀ k, (∀ y0 y1 y2 y3 y4, LeO (apogeeref01_value.l0 k y0 y1 y2 y3 y4) (apogeeref01_value.l0 (k + 1) y0 y1 y2 y3 y4))
 | 0 => fun _ _ _ _ _ r h => by simp [apogeeref01_value.l0] at h
 | k + 1 => by
  have ih0 := apogeeref01_value.mono_l k
  ·intro y0 y1 y2 y3 y4
   unfold apogeeref01_value.l0
   repeat' first
   | (with_reducible exact ih0 _ _ _ _ _)
   | (with_reducible exact LeO.refl _)
   | (with_reducible exact LeO.none _)
   | (with_reducible refine LeO.ite ?_ ?_)
   | (with_reducible refine LeO.bind ?_ (fun _ => ?_))
   | exact ih0 _ _ _ _ _
   | exact LeO.none _
   | refine LeO.ite ?_ ?_
   | refine LeO.bind ?_ (fun _ => ?_)
theorem apogeeref01_value.mono : ∀ a0 k, LeO (apogeeref01_value.f k a0) (apogeeref01_value.f (k + 1) a0) := by
 intro a0 k
 have ih0 := apogeeref01_value.mono_l k
 unfold apogeeref01_value.f
 repeat' first
   | (with_reducible exact ih0 _ _ _ _ _)
   | (with_reducible exact LeO.refl _)
   | (with_reducible exact LeO.none _)
   | (with_reducible refine LeO.ite ?_ ?_)
   | (with_reducible refine LeO.bind ?_ (fun _ => ?_))
   | exact ih0 _ _ _ _ _
   | exact LeO.none _
   | refine LeO.ite ?_ ?_
   | refine LeO.bind ?_ (fun _ => ?_)
set_option maxHeartbeats 8000000 in
set_option maxRecDepth 100000 in
theorem apogeeref01_value.calls (k : Nat) (A0 : Option Addr) (c0 : Nat) (l0 : List Int) (r1 : Int) (r2 : Int) (w : World) (hr0 : Kd.C (Kd.int .i64) w A0 l0.length l0) (hc0 : l0.length ≤ c0) (h : apogeeref01_value.f k l0 = some (r1, r2)) :
  Calls Try.prog 75 #[.slice A0 l0.length c0] w fun e w' => e = .returned (.agg #[.int .i64 r1, .int .u64 r2]) ∧ Below w.heap.size w w' := by
 have hu66 := Try.underlying66
 have HR0 := bA hr0
 have HC0 := bA hc0
 clear hr0 hc0
 have HB := bA (Below.refl w.heap.size w)
 have H : (apogeeref01_value.l0 k l0 0 0 0 0) = some (r1, r2) := h
 clear h
 have H' := bA H
 clear H
 go_enter Try.func75, Try.ntmps75
 go_wp2_with (first | ((with_reducible refine gate_dst (N := 2) rfl ?_); refine bE (N := 2) (cs := #[.int .i64 0, .int .u64 0]) (t := 66) ?_; intro gb302 hg w2 hbox hb; have n0_ := bA (bS hb); have n1_ := bA (hbox); have n2_ := bA ((bZ hg : w.heap.size ≤ gb302)); have n3_ := bA ((bZ hg : w.heap.size ≤ gb302)); clear HB; have HB := n0_; have BK302 := n1_; have GW302 := n2_; have GE302 := n3_; clear n0_ n1_ n2_ n3_; clear hb hbox hg) | ((with_reducible refine gate_dst (N := 3) rfl ?_); refine bE (N := 3) (cs := #[.int .i64 0, .int .u64 0]) (t := 66) ?_; intro gb303 hg w3 hbox hb; have n0_ := bA (bB BK302 hb); have n1_ := bA (bS hb); have n2_ := bA (hbox); have n3_ := bA ((bZ hg : w.heap.size ≤ gb303)); have n4_ := bA ((bZ hg : w.heap.size ≤ gb303)); have n5_ := bA ((bL BK302 hg : gb302 ≠ gb303)); have n6_ := bA ((bG BK302 hg : gb303 ≠ gb302)); clear BK302; clear HB; have BK302 := n0_; have HB := n1_; have BK303 := n2_; have GW303 := n3_; have GE303 := n4_; have NB302_303 := n5_; have NB303_302 := n6_; clear n0_ n1_ n2_ n3_ n4_ n5_ n6_; clear hb hbox hg; have hnb4 := NB303_302.out; have hnc4 := NB302_303.out; have hcz5_0 : w3.cell? ⟨gb303, 0, none⟩ = some (.int .i64 0) := (blk_cell BK303.out 0).trans rfl; have hcz5_1 : w3.cell? ⟨gb303, 1, none⟩ = some (.int .u64 0) := (blk_cell BK303.out 1).trans rfl; have hfz5_0 := blk_frozen BK303.out 0; have hfz5_1 := blk_frozen BK303.out 1))
 go_loopg [4, 5] k (fun kq v4 v5 w' => ∃ (x4_1 : Int) (x5_1 : Int) (x304001_1 : Int), v4 = .int .u64 x4_1 ∧ v5 = .int .i64 x5_1 ∧ Aside0 (apogeeref01_value.l0 kq l0 x4_1 x5_1 0 x304001_1 = some (r1, r2)) ∧ Aside0 (kq ≤ k) ∧ Aside0 (w'.heap[gb302]? = some (.cells #[.int .i64 0, .int .u64 0] 66 (0, 0))) ∧ Aside0 (w'.heap[gb303]? = some (.cells #[.int .i64 0, .int .u64 x304001_1] 66 (0, 0))) ∧ Aside0 (Below w.heap.size w w'))
 case atStart => exact ⟨(0), (0), (0), (by first | rfl | (simp; done) | (simp [*]; done)), (by first | rfl | (simp; done) | (simp [*]; done)), H', ⟨Nat.le_refl _⟩, ⟨by (with_reducible repeat (first | refine blk_drewN ?_ _ | refine blk_drew ?_ | refine blk_alloc ?_ _)); refine blk_far ?_ NB302_303.out _; (with_reducible repeat (first | refine blk_drewN ?_ _ | refine blk_drew ?_ | refine blk_alloc ?_ _)); refine blk_far ?_ NB302_303.out _; (with_reducible repeat (first | refine blk_drewN ?_ _ | refine blk_drew ?_ | refine blk_alloc ?_ _)); exact BK302.out⟩, ⟨by (with_reducible repeat (first | refine blk_drewN ?_ _ | refine blk_drew ?_ | refine blk_alloc ?_ _)); refine blk_put (cs := #[.int .i64 0, .int .u64 0]) ?_ 1 _ rfl; (with_reducible repeat (first | refine blk_drewN ?_ _ | refine blk_drew ?_ | refine blk_alloc ?_ _)); refine blk_put (cs := #[.int .i64 0, .int .u64 0]) ?_ 0 _ rfl; (with_reducible repeat (first | refine blk_drewN ?_ _ | refine blk_drew ?_ | refine blk_alloc ?_ _)); exact BK303.out⟩, ⟨bX⟩⟩
 case round =>
  clear H'
  try clear p2
  try clear c4
  try clear hcz5_0
  try clear hcz5_1
  try clear hfz5_0
  try clear hfz5_1
  obtain ⟨x4_1, x5_1, x304001_1, rfl, rfl, HA, HK1, BK302, BK303, HB⟩ := hrel
  cases gk with
  | zero => exact absurd HA.out (by simp [apogeeref01_value.l0])
  | succ k1 =>
   have H := HA.out
   clear HA
   simp only [apogeeref01_value.l0] at H
   by_cases c6 : x5_1 < 64
   ·rw [if_pos c6] at H
    have c6b0 : decide (x5_1 < 64) = true := decide_eq_true c6
    clear c6
    by_cases c7 : 0 ≤ x5_1
    ·rw [if_pos c7] at H
     have c7b0 : decide (0 ≤ x5_1) = true := decide_eq_true c7
     clear c7
     by_cases c8 : x5_1 < (l0.length : Int)
     ·rw [if_pos c8] at H
      have c8b0 : decide (x5_1 < (l0.length : Int)) = true := decide_eq_true c8
      clear c8
      by_cases c9 : (rd l0 x5_1) = 1
      ·rw [if_pos c9] at H
       have c9b0 : ((rd l0 x5_1) == 1) = true := beq_iff_eq.mpr c9
       have c9b1 : ((rd l0 x5_1) != 1) = false := bne_eq_false_iff_eq.mpr c9
       clear c9
       have c10b0 := eq_true (of_decide_eq_true (by first | (with_reducible assumption) | assumption) : 0 ≤ x5_1)
       obtain ⟨ji11, hji11⟩ : ∃ j_ : Int, (shl .u64 1 x5_1) = j_ := ⟨_, rfl⟩
       replace H : (if 0 ≤ (wrap64 (64 + x5_1)) then (if (wrap64 (64 + x5_1)) < (l0.length : Int) then (if (rd l0 (wrap64 (64 + x5_1))) = 1 then (apogeeref01_value.l0 k1 l0 (Go.bits .or .u64 x4_1 (ji11)) (wrap64 (x5_1 + 1)) 0 (Go.bits .or .u64 x304001_1 (ji11))) else (apogeeref01_value.l0 k1 l0 x4_1 (wrap64 (x5_1 + 1)) 0 (Go.bits .or .u64 x304001_1 (ji11)))) else (none)) else (none)) = some (r1, r2) := by first | (rw [hji11] at H; exact H) | (simp only [hji11] at H ⊢; exact H)
       have hji11_ : (IntKind.u64.wrap (1 * 2 ^ min x5_1.toNat 64)) = ji11 := hji11
       have hji11z : x5_1 ≤ 64 → (IntKind.u64.wrap (1 * 2 ^ x5_1.toNat)) = ji11 := shl_small hji11
       have hji11u : (IntKind.u64.wrap (2 ^ min x5_1.toNat 64)) = ji11 := by have h_ := hji11_; rw [Int.one_mul] at h_; exact h_
       have hji11v : x5_1 ≤ 64 → (IntKind.u64.wrap (2 ^ x5_1.toNat)) = ji11 := fun hle_ => by have h_ := hji11z hle_; rw [Int.one_mul] at h_; exact h_
       obtain ⟨ji12, hji12⟩ : ∃ j_ : Int, (wrap64 (64 + x5_1)) = j_ := ⟨_, rfl⟩
       replace H : (if 0 ≤ (ji12) then (if (ji12) < (l0.length : Int) then (if (rd l0 (ji12)) = 1 then (apogeeref01_value.l0 k1 l0 (Go.bits .or .u64 x4_1 (ji11)) (wrap64 (x5_1 + 1)) 0 (Go.bits .or .u64 x304001_1 (ji11))) else (apogeeref01_value.l0 k1 l0 x4_1 (wrap64 (x5_1 + 1)) 0 (Go.bits .or .u64 x304001_1 (ji11)))) else (none)) else (none)) = some (r1, r2) := by first | (rw [hji12] at H; exact H) | (simp only [hji12] at H ⊢; exact H)
       have hji12w : (IntKind.i64.wrap (64 + x5_1)) = ji12 := (i64_w _).trans hji12
       by_cases c13 : 0 ≤ (ji12)
       ·rw [if_pos c13] at H
        have c13b0 : decide (0 ≤ (ji12)) = true := decide_eq_true c13
        clear c13
        by_cases c14 : (ji12) < (l0.length : Int)
        ·rw [if_pos c14] at H
         have c14b0 : decide ((ji12) < (l0.length : Int)) = true := decide_eq_true c14
         clear c14
         by_cases c15 : (rd l0 (ji12)) = 1
         ·rw [if_pos c15] at H
          have c15b0 : ((rd l0 (ji12)) == 1) = true := beq_iff_eq.mpr c15
          have c15b1 : ((rd l0 (ji12)) != 1) = false := bne_eq_false_iff_eq.mpr c15
          clear c15
          have c16b0 := eq_true (of_decide_eq_true (by first | (with_reducible assumption) | assumption) : 0 ≤ x5_1)
          have H' := bA H
          clear H
          have p304 : 0 ≤ (x5_1 : Int) := of_decide_eq_true (by first | (with_reducible assumption) | assumption)
          have q304 : x5_1 < (l0.length : Int) := of_decide_eq_true (by first | (with_reducible assumption) | assumption)
          obtain ⟨ad304, e304, hx304_0⟩ := Kd.at_int HR0.out x5_1 p304 q304
          cases e304
          replace hx304_0 := (HB.out.cell (World.block_lt_of_cell? w _ hx304_0)).trans hx304_0
          replace p304 := eq_true p304
          replace q304 := eq_true q304
          try go_wp2
          have n0_ := bA (blk_drew BK302.out)
          have n1_ := bA (blk_drew BK303.out)
          have n2_ := bA (below_drew1 HB.out)
          clear BK302
          clear BK303
          clear HB
          have BK302 := n0_
          have BK303 := n1_
          have HB := n2_
          clear n0_ n1_ n2_
          refine start_ (n := 7) (S := fun w' => w'.cell? ⟨gb303, 0, none⟩ = some (.int .i64 0) ∧ w'.cell? ⟨gb303, 1, none⟩ = some (.int .u64 x304001_1)) (ds := [6]) #[false, false, false, false, false, false, false] (by kernel_rfl) rfl rfl ⟨(blk_cell BK303.out 0).trans rfl, (blk_cell BK303.out 1).trans rfl⟩ (fun hHeld => ?_)
          generalize wr.drew = w17 at BK302 BK303 HB hHeld ⊢
          refine pure_ (i := 0) (N := some 16) (v := ?_) (a' := ?_) #[true, false, false, false, false, false, false] rfl rfl (by kernel_rfl) (fun _ _ _ h => h) (Or.inl ⟨by rfl, ?_⟩) ?_ ?_
          rotate_left
          ·intro w'
           go_simp
           with_reducible rfl
          rotate_left
          ·simp only [Act.put, List.setIfInBounds_toArray, List.set_cons_zero, List.set_cons_succ, i64_w, i32_w]
           rfl
          refine pure_ (i := 2) (N := some 18) (v := ?_) (a' := ?_) #[true, false, true, false, false, false, false] rfl rfl (by kernel_rfl) (fun _ _ _ h => h) (Or.inl ⟨by rfl, ?_⟩) ?_ ?_
          rotate_left
          ·intro w'
           go_simp
           with_reducible rfl
          rotate_left
          ·simp only [Act.put, List.setIfInBounds_toArray, List.set_cons_zero, List.set_cons_succ, i64_w, i32_w]
           rfl
          refine pure_ (i := 3) (N := some 19) (v := ?_) (a' := ?_) #[true, false, true, true, false, false, false] rfl rfl (by kernel_rfl) (fun _ _ _ h => h) (Or.inl ⟨by rfl, ?_⟩) ?_ ?_
          rotate_left
          ·intro w'
           go_simp
           with_reducible rfl
          rotate_left
          ·simp only [Act.put, List.setIfInBounds_toArray, List.set_cons_zero, List.set_cons_succ, i64_w, i32_w]
           rfl
          refine take_ (i := 1) (N := some 17) (v := ?_) (a' := ?_) #[true, true, true, true, false, false, false] rfl rfl (by kernel_rfl) (fun _ _ _ h => h) (Or.inl ⟨by rfl, ?_⟩) hHeld ?_ ?_
          rotate_left
          ·rintro w' ⟨s0, s1⟩
           go_simp
           with_reducible rfl
          rotate_left
          ·simp only [Act.put, List.setIfInBounds_toArray, List.set_cons_zero, List.set_cons_succ, i64_w, i32_w]
           rfl
          refine pure_ (i := 4) (N := some 20) (v := ?_) (a' := ?_) #[true, true, true, true, true, false, false] rfl rfl (by kernel_rfl) (fun _ _ _ h => h) (Or.inl ⟨by rfl, ?_⟩) ?_ ?_
          rotate_left
          ·intro w'
           go_simp
           with_reducible rfl
          rotate_left
          ·simp only [Act.put, List.setIfInBounds_toArray, List.set_cons_zero, List.set_cons_succ, i64_w, i32_w]
           rfl
          refine pure_ (i := 5) (N := some 21) (v := ?_) (a' := ?_) #[true, true, true, true, true, true, false] rfl rfl (by kernel_rfl) (fun _ _ _ h => h) (Or.inl ⟨by rfl, ?_⟩) ?_ ?_
          rotate_left
          ·intro w'
           go_simp
           with_reducible rfl
          rotate_left
          ·simp only [Act.put, List.setIfInBounds_toArray, List.set_cons_zero, List.set_cons_succ, i64_w, i32_w]
           rfl
          refine last_ (i := 6) (N := none) #[true, true, true, true, true, true, true] rfl rfl (by kernel_rfl) (by decide) (fun K hK => ?_)
          have hs18 : w17.cell? ⟨gb303, 1, none⟩ = some (.int .u64 x304001_1) := (blk_cell BK303.out 1).trans rfl
          have hfs18 := blk_frozen BK303.out 1
          have hns18_0 := NB302_303.out
          have hms18_0 := NB303_302.out
          refine skip_ (w1 := ?_) (by rfl) rfl ?_ ?_
          rotate_left
          ·go_simp
           rfl
          refine hK.out _ _ ?_
          clear hK K
          refine done_ (by kernel_rfl) ?_
          have p305 : 0 ≤ ((ji12) : Int) := of_decide_eq_true (by first | (with_reducible assumption) | assumption)
          have q305 : (ji12) < (l0.length : Int) := of_decide_eq_true (by first | (with_reducible assumption) | assumption)
          obtain ⟨ad305, e305, hx305_0⟩ := Kd.at_int HR0.out (ji12) p305 q305
          obtain rfl : ad304 = ad305 := (by injection e305)
          have hn305_0 : ad304.block ≠ gb303 := Nat.ne_of_lt (Nat.lt_of_lt_of_le (by have := World.block_lt_of_cell? _ _ hx305_0; first | rwa [add_block] at this | exact this) GW303.out)
          replace hx305_0 := (HB.out.cell (World.block_lt_of_cell? w _ hx305_0)).trans hx305_0
          replace hx305_0 := (cell_far (p := ⟨gb303, 1, none⟩) (by first | (rw [add_block]; exact hn305_0) | (show (Addr.add _ _).block ≠ _; rw [add_block]; exact hn305_0) | exact hn305_0) (.int .u64 (Go.bits .or .u64 x304001_1 (ji11)))).trans hx305_0
          clear hn305_0
          replace p305 := eq_true p305
          replace q305 := eq_true q305
          try go_wp2
          go_roundg k1
          case measure => have := HK1.out; omega
          case rel => exact ⟨(Go.bits .or .u64 x4_1 (ji11)), (wrap64 (x5_1 + 1)), (Go.bits .or .u64 x304001_1 (ji11)), (by first | rfl | (simp; done) | (simp only [← hji11] <;> (first | rfl | simp)) | (simp [*]; done)), (by first | rfl | (simp; done) | (simp [*]; done)), H', ⟨by have := HK1.out; omega⟩, ⟨by (with_reducible repeat (first | refine blk_drewN ?_ _ | refine blk_drew ?_ | refine blk_alloc ?_ _)); refine blk_far ?_ NB302_303.out _; (with_reducible repeat (first | refine blk_drewN ?_ _ | refine blk_drew ?_ | refine blk_alloc ?_ _)); exact BK302.out⟩, ⟨by (with_reducible repeat (first | refine blk_drewN ?_ _ | refine blk_drew ?_ | refine blk_alloc ?_ _)); refine blk_put (cs := #[.int .i64 0, .int .u64 x304001_1]) ?_ 1 _ rfl; (with_reducible repeat (first | refine blk_drewN ?_ _ | refine blk_drew ?_ | refine blk_alloc ?_ _)); exact BK303.out⟩, ⟨bX⟩⟩
         ·rw [if_neg c15] at H
          have c15b0 : ((rd l0 (ji12)) == 1) = false := beq_eq_false_iff_ne.mpr c15
          have c15b1 : ((rd l0 (ji12)) != 1) = true := bne_iff_ne.mpr c15
          have H' := bA H
          clear H
          have p304 : 0 ≤ (x5_1 : Int) := of_decide_eq_true (by first | (with_reducible assumption) | assumption)
          have q304 : x5_1 < (l0.length : Int) := of_decide_eq_true (by first | (with_reducible assumption) | assumption)
          obtain ⟨ad304, e304, hx304_0⟩ := Kd.at_int HR0.out x5_1 p304 q304
          cases e304
          replace hx304_0 := (HB.out.cell (World.block_lt_of_cell? w _ hx304_0)).trans hx304_0
          replace p304 := eq_true p304
          replace q304 := eq_true q304
          try go_wp2
          have n0_ := bA (blk_drew BK302.out)
          have n1_ := bA (blk_drew BK303.out)
          have n2_ := bA (below_drew1 HB.out)
          clear BK302
          clear BK303
          clear HB
          have BK302 := n0_
          have BK303 := n1_
          have HB := n2_
          clear n0_ n1_ n2_
          refine start_ (n := 7) (S := fun w' => w'.cell? ⟨gb303, 0, none⟩ = some (.int .i64 0) ∧ w'.cell? ⟨gb303, 1, none⟩ = some (.int .u64 x304001_1)) (ds := [6]) #[false, false, false, false, false, false, false] (by kernel_rfl) rfl rfl ⟨(blk_cell BK303.out 0).trans rfl, (blk_cell BK303.out 1).trans rfl⟩ (fun hHeld => ?_)
          generalize wr.drew = w19 at BK302 BK303 HB hHeld ⊢
          refine pure_ (i := 0) (N := some 16) (v := ?_) (a' := ?_) #[true, false, false, false, false, false, false] rfl rfl (by kernel_rfl) (fun _ _ _ h => h) (Or.inl ⟨by rfl, ?_⟩) ?_ ?_
          rotate_left
          ·intro w'
           go_simp
           with_reducible rfl
          rotate_left
          ·simp only [Act.put, List.setIfInBounds_toArray, List.set_cons_zero, List.set_cons_succ, i64_w, i32_w]
           rfl
          refine pure_ (i := 2) (N := some 18) (v := ?_) (a' := ?_) #[true, false, true, false, false, false, false] rfl rfl (by kernel_rfl) (fun _ _ _ h => h) (Or.inl ⟨by rfl, ?_⟩) ?_ ?_
          rotate_left
          ·intro w'
           go_simp
           with_reducible rfl
          rotate_left
          ·simp only [Act.put, List.setIfInBounds_toArray, List.set_cons_zero, List.set_cons_succ, i64_w, i32_w]
           rfl
          refine pure_ (i := 3) (N := some 19) (v := ?_) (a' := ?_) #[true, false, true, true, false, false, false] rfl rfl (by kernel_rfl) (fun _ _ _ h => h) (Or.inl ⟨by rfl, ?_⟩) ?_ ?_
          rotate_left
          ·intro w'
           go_simp
           with_reducible rfl
          rotate_left
          ·simp only [Act.put, List.setIfInBounds_toArray, List.set_cons_zero, List.set_cons_succ, i64_w, i32_w]
           rfl
          refine take_ (i := 1) (N := some 17) (v := ?_) (a' := ?_) #[true, true, true, true, false, false, false] rfl rfl (by kernel_rfl) (fun _ _ _ h => h) (Or.inl ⟨by rfl, ?_⟩) hHeld ?_ ?_
          rotate_left
          ·rintro w' ⟨s0, s1⟩
           go_simp
           with_reducible rfl
          rotate_left
          ·simp only [Act.put, List.setIfInBounds_toArray, List.set_cons_zero, List.set_cons_succ, i64_w, i32_w]
           rfl
          refine pure_ (i := 4) (N := some 20) (v := ?_) (a' := ?_) #[true, true, true, true, true, false, false] rfl rfl (by kernel_rfl) (fun _ _ _ h => h) (Or.inl ⟨by rfl, ?_⟩) ?_ ?_
          rotate_left
          ·intro w'
           go_simp
           with_reducible rfl
          rotate_left
          ·simp only [Act.put, List.setIfInBounds_toArray, List.set_cons_zero, List.set_cons_succ, i64_w, i32_w]
           rfl
          refine pure_ (i := 5) (N := some 21) (v := ?_) (a' := ?_) #[true, true, true, true, true, true, false] rfl rfl (by kernel_rfl) (fun _ _ _ h => h) (Or.inl ⟨by rfl, ?_⟩) ?_ ?_
          rotate_left
          ·intro w'
           go_simp
           with_reducible rfl
          rotate_left
          ·simp only [Act.put, List.setIfInBounds_toArray, List.set_cons_zero, List.set_cons_succ, i64_w, i32_w]
           rfl
          refine last_ (i := 6) (N := none) #[true, true, true, true, true, true, true] rfl rfl (by kernel_rfl) (by decide) (fun K hK => ?_)
          have hs20 : w19.cell? ⟨gb303, 1, none⟩ = some (.int .u64 x304001_1) := (blk_cell BK303.out 1).trans rfl
          have hfs20 := blk_frozen BK303.out 1
          have hns20_0 := NB302_303.out
          have hms20_0 := NB303_302.out
          refine skip_ (w1 := ?_) (by rfl) rfl ?_ ?_
          rotate_left
          ·go_simp
           rfl
          refine hK.out _ _ ?_
          clear hK K
          refine done_ (by kernel_rfl) ?_
          have p305 : 0 ≤ ((ji12) : Int) := of_decide_eq_true (by first | (with_reducible assumption) | assumption)
          have q305 : (ji12) < (l0.length : Int) := of_decide_eq_true (by first | (with_reducible assumption) | assumption)
          obtain ⟨ad305, e305, hx305_0⟩ := Kd.at_int HR0.out (ji12) p305 q305
          obtain rfl : ad304 = ad305 := (by injection e305)
          have hn305_0 : ad304.block ≠ gb303 := Nat.ne_of_lt (Nat.lt_of_lt_of_le (by have := World.block_lt_of_cell? _ _ hx305_0; first | rwa [add_block] at this | exact this) GW303.out)
          replace hx305_0 := (HB.out.cell (World.block_lt_of_cell? w _ hx305_0)).trans hx305_0
          replace hx305_0 := (cell_far (p := ⟨gb303, 1, none⟩) (by first | (rw [add_block]; exact hn305_0) | (show (Addr.add _ _).block ≠ _; rw [add_block]; exact hn305_0) | exact hn305_0) (.int .u64 (Go.bits .or .u64 x304001_1 (ji11)))).trans hx305_0
          clear hn305_0
          replace p305 := eq_true p305
          replace q305 := eq_true q305
          try go_wp2
          go_roundg k1
          case measure => have := HK1.out; omega
          case rel => exact ⟨(x4_1), (wrap64 (x5_1 + 1)), (Go.bits .or .u64 x304001_1 (ji11)), (by first | rfl | (simp; done) | (simp [*]; done)), (by first | rfl | (simp; done) | (simp [*]; done)), H', ⟨by have := HK1.out; omega⟩, ⟨by (with_reducible repeat (first | refine blk_drewN ?_ _ | refine blk_drew ?_ | refine blk_alloc ?_ _)); refine blk_far ?_ NB302_303.out _; (with_reducible repeat (first | refine blk_drewN ?_ _ | refine blk_drew ?_ | refine blk_alloc ?_ _)); exact BK302.out⟩, ⟨by (with_reducible repeat (first | refine blk_drewN ?_ _ | refine blk_drew ?_ | refine blk_alloc ?_ _)); refine blk_put (cs := #[.int .i64 0, .int .u64 x304001_1]) ?_ 1 _ rfl; (with_reducible repeat (first | refine blk_drewN ?_ _ | refine blk_drew ?_ | refine blk_alloc ?_ _)); exact BK303.out⟩, ⟨bX⟩⟩
        ·rw [if_neg c14] at H
         exact absurd H (by simp)
       ·rw [if_neg c13] at H
        exact absurd H (by simp)
      ·rw [if_neg c9] at H
       have c9b0 : ((rd l0 x5_1) == 1) = false := beq_eq_false_iff_ne.mpr c9
       have c9b1 : ((rd l0 x5_1) != 1) = true := bne_iff_ne.mpr c9
       obtain ⟨ji21, hji21⟩ : ∃ j_ : Int, (wrap64 (64 + x5_1)) = j_ := ⟨_, rfl⟩
       replace H : (if 0 ≤ (ji21) then (if (ji21) < (l0.length : Int) then (if (rd l0 (ji21)) = 1 then (apogeeref01_value.l0 k1 l0 (Go.bits .or .u64 x4_1 (shl .u64 1 x5_1)) (wrap64 (x5_1 + 1)) 0 x304001_1) else (apogeeref01_value.l0 k1 l0 x4_1 (wrap64 (x5_1 + 1)) 0 x304001_1)) else (none)) else (none)) = some (r1, r2) := by first | (rw [hji21] at H; exact H) | (simp only [hji21] at H ⊢; exact H)
       have hji21w : (IntKind.i64.wrap (64 + x5_1)) = ji21 := (i64_w _).trans hji21
       by_cases c22 : 0 ≤ (ji21)
       rw [if_pos c22] at H
       have c22b0 : decide (0 ≤ (ji21)) = true := decide_eq_true c22
       clear c22
       by_cases c23 : (ji21) < (l0.length : Int)
       rw [if_pos c23] at H
       have c23b0 : decide ((ji21) < (l0.length : Int)) = true := decide_eq_true c23
       clear c23
       by_cases c24 : (rd l0 (ji21)) = 1
       rw [if_pos c24] at H
       have c24b0 : ((rd l0 (ji21)) == 1) = true := beq_iff_eq.mpr c24
       have c24b1 : ((rd l0 (ji21)) != 1) = false := bne_eq_false_iff_eq.mpr c24
       clear c24
       have c25b0 := eq_true (of_decide_eq_true (by first | (with_reducible assumption) | assumption) : 0 ≤ x5_1)
       obtain ⟨ji26, hji26⟩ : ∃ j_ : Int, (shl .u64 1 x5_1) = j_ := ⟨_, rfl⟩
       replace H : (apogeeref01_value.l0 k1 l0 (Go.bits .or .u64 x4_1 (ji26)) (wrap64 (x5_1 + 1)) 0 x304001_1) = some (r1, r2) := by first | (rw [hji26] at H; exact H) | (simp only [hji26] at H ⊢; exact H)
       have hji26_ : (IntKind.u64.wrap (1 * 2 ^ min x5_1.toNat 64)) = ji26 := hji26
       have hji26z : x5_1 ≤ 64 → (IntKind.u64.wrap (1 * 2 ^ x5_1.toNat)) = ji26 := shl_small hji26
       have hji26u : (IntKind.u64.wrap (2 ^ min x5_1.toNat 64)) = ji26 := by have h_ := hji26_; rw [Int.one_mul] at h_; exact h_
       have hji26v : x5_1 ≤ 64 → (IntKind.u64.wrap (2 ^ x5_1.toNat)) = ji26 := fun hle_ => by have h_ := hji26z hle_; rw [Int.one_mul] at h_; exact h_
       have H' := bA H
       clear H
       have p304 : 0 ≤ (x5_1 : Int) := of_decide_eq_true (by first | (with_reducible assumption) | assumption)
       have q304 : x5_1 < (l0.length : Int) := of_decide_eq_true (by first | (with_reducible assumption) | assumption)
       obtain ⟨ad304, e304, hx304_0⟩ := Kd.at_int HR0.out x5_1 p304 q304
       cases e304
       replace hx304_0 := (HB.out.cell (World.block_lt_of_cell? w _ hx304_0)).trans hx304_0
       replace p304 := eq_true p304
       replace q304 := eq_true q304
       have p306 : 0 ≤ ((ji21) : Int) := of_decide_eq_true (by first | (with_reducible assumption) | assumption)
       have q306 : (ji21) < (l0.length : Int) := of_decide_eq_true (by first | (with_reducible assumption) | assumption)
       obtain ⟨ad306, e306, hx306_0⟩ := Kd.at_int HR0.out (ji21) p306 q306
       obtain rfl : ad304 = ad306 := (by injection e306)
       replace hx306_0 := (HB.out.cell (World.block_lt_of_cell? w _ hx306_0)).trans hx306_0
       replace p306 := eq_true p306
       replace q306 := eq_true q306
       rotate_left
       rw [if_neg c24] at H
       have c24b0 : ((rd l0 (ji21)) == 1) = false := beq_eq_false_iff_ne.mpr c24
       have c24b1 : ((rd l0 (ji21)) != 1) = true := bne_iff_ne.mpr c24
       have H' := bA H
       clear H
       have p304 : 0 ≤ (x5_1 : Int) := of_decide_eq_true (by first | (with_reducible assumption) | assumption)
       have q304 : x5_1 < (l0.length : Int) := of_decide_eq_true (by first | (with_reducible assumption) | assumption)
       obtain ⟨ad304, e304, hx304_0⟩ := Kd.at_int HR0.out x5_1 p304 q304
       cases e304
       replace hx304_0 := (HB.out.cell (World.block_lt_of_cell? w _ hx304_0)).trans hx304_0
       replace p304 := eq_true p304
       replace q304 := eq_true q304
       have p306 : 0 ≤ ((ji21) : Int) := of_decide_eq_true (by first | (with_reducible assumption) | assumption)
       have q306 : (ji21) < (l0.length : Int) := of_decide_eq_true (by first | (with_reducible assumption) | assumption)
       obtain ⟨ad306, e306, hx306_0⟩ := Kd.at_int HR0.out (ji21) p306 q306
       obtain rfl : ad304 = ad306 := (by injection e306)
       replace hx306_0 := (HB.out.cell (World.block_lt_of_cell? w _ hx306_0)).trans hx306_0
       replace p306 := eq_true p306
       replace q306 := eq_true q306
       rotate_left
       rw [if_neg c23] at H
       exact absurd H (by simp)
       rw [if_neg c22] at H
       exact absurd H (by simp)
       all_goals go_wp2
       ·go_roundg k1
        case measure => have := HK1.out; omega
        case rel => exact ⟨(Go.bits .or .u64 x4_1 (ji26)), (wrap64 (x5_1 + 1)), (x304001_1), (by first | rfl | (simp; done) | (simp only [← hji26] <;> (first | rfl | simp)) | (simp [*]; done)), (by first | rfl | (simp; done) | (simp [*]; done)), H', ⟨by have := HK1.out; omega⟩, ⟨by (with_reducible repeat (first | refine blk_drewN ?_ _ | refine blk_drew ?_ | refine blk_alloc ?_ _)); exact BK302.out⟩, ⟨by (with_reducible repeat (first | refine blk_drewN ?_ _ | refine blk_drew ?_ | refine blk_alloc ?_ _)); exact BK303.out⟩, ⟨bX⟩⟩
       ·go_roundg k1
        case measure => have := HK1.out; omega
        case rel => exact ⟨(x4_1), (wrap64 (x5_1 + 1)), (x304001_1), (by first | rfl | (simp; done) | (simp [*]; done)), (by first | rfl | (simp; done) | (simp [*]; done)), H', ⟨by have := HK1.out; omega⟩, ⟨by (with_reducible repeat (first | refine blk_drewN ?_ _ | refine blk_drew ?_ | refine blk_alloc ?_ _)); exact BK302.out⟩, ⟨by (with_reducible repeat (first | refine blk_drewN ?_ _ | refine blk_drew ?_ | refine blk_alloc ?_ _)); exact BK303.out⟩, ⟨bX⟩⟩
     ·rw [if_neg c8] at H
      exact absurd H (by simp)
    ·rw [if_neg c7] at H
     exact absurd H (by simp)
   ·rw [if_neg c6] at H
    have c6b0 : decide (x5_1 < 64) = false := decide_eq_false c6
    clear c6
    simp only [Option.some.injEq, Prod.mk.injEq] at H
    obtain ⟨rfl, rfl⟩ := H
    have hnb27 := NB303_302.out
    have hnc27 := NB302_303.out
    have hcz28_0 : wr.cell? ⟨gb303, 0, none⟩ = some (.int .i64 0) := (blk_cell BK303.out 0).trans rfl
    have hcz28_1 : wr.cell? ⟨gb303, 1, none⟩ = some (.int .u64 x304001_1) := (blk_cell BK303.out 1).trans rfl
    have hfz28_0 := blk_frozen BK303.out 0
    have hfz28_1 := blk_frozen BK303.out 1
    have hcz29_0 : wr.cell? ⟨gb302, 0, none⟩ = some (.int .i64 0) := (blk_cell BK302.out 0).trans rfl
    have hcz29_1 : wr.cell? ⟨gb302, 1, none⟩ = some (.int .u64 0) := (blk_cell BK302.out 1).trans rfl
    have hfz29_0 := blk_frozen BK302.out 0
    have hfz29_1 := blk_frozen BK302.out 1
    go_wp2
    refine bodyPost_ret (results_cell_row rfl _ _ gb302 66 #[.int .i64 (wrap64 (x4_1)), .int .u64 x304001_1] (0, 0) _ rfl (by (with_reducible repeat (first | refine blk_drewN ?_ _ | refine blk_drew ?_ | refine blk_alloc ?_ _)); refine blk_put (cs := #[.int .i64 (wrap64 (x4_1)), .int .u64 0]) ?_ 1 _ rfl; (with_reducible repeat (first | refine blk_drewN ?_ _ | refine blk_drew ?_ | refine blk_alloc ?_ _)); refine blk_put (cs := #[.int .i64 0, .int .u64 0]) ?_ 0 _ rfl; (with_reducible repeat (first | refine blk_drewN ?_ _ | refine blk_drew ?_ | refine blk_alloc ?_ _)); refine blk_far ?_ NB302_303.out _; (with_reducible repeat (first | refine blk_drewN ?_ _ | refine blk_drew ?_ | refine blk_alloc ?_ _)); exact BK302.out) Try.underlying66 rfl (by kernel_rfl)) rfl ?_
    exact bF
/-! ### apogeeref01_plus: function 63 -/
def apogeeref01_plus.l0 : Nat → List Int → List Int → List Int → Int → Int → Option (Int × Int)
 | 0, _, _, _, _, _ => none
 | k + 1, x5, x6, x7, x8, x9 => if x9 < 128 then (if 0 ≤ x9 then (if x9 < (x5.length : Int) then (if x9 < (x6.length : Int) then (if x7.length < 17592186044416 then (apogeeref01_plus.l0 k x5 x6 (x7 ++ [Int.tmod (wrap64 ((wrap64 ((rd x5 x9) + (rd x6 x9))) + x8)) 2]) (wrap64 (Int.tdiv (wrap64 ((wrap64 ((rd x5 x9) + (rd x6 x9))) + x8)) 2)) (wrap64 (x9 + 1))) else (none)) else (none)) else (none)) else (none)) else ((apogeeref01_value.f k x7).bind fun bt321 => (some (bt321.1, bt321.2)))
def apogeeref01_plus.f (k : Nat) (a0_0 : Int) (a0_1 : Int) (a1_0 : Int) (a1_1 : Int) : Option (Int × Int) := (apogeeref01_bits.f k a0_0 a0_1).bind fun t310 => ((apogeeref01_bits.f k a1_0 a1_1).bind fun t313 => (apogeeref01_plus.l0 k t310 t313 ([] : List Int) 0 0))
theorem apogeeref01_plus.mono_l : ∀ k, (∀ y0 y1 y2 y3 y4, LeO (apogeeref01_plus.l0 k y0 y1 y2 y3 y4) (apogeeref01_plus.l0 (k + 1) y0 y1 y2 y3 y4))
 | 0 => fun _ _ _ _ _ r h => by simp [apogeeref01_plus.l0] at h
 | k + 1 => by
  have ih0 := apogeeref01_plus.mono_l k
  ·intro y0 y1 y2 y3 y4
   unfold apogeeref01_plus.l0
   repeat' first
   | (with_reducible exact ih0 _ _ _ _ _)
   | (with_reducible exact apogeeref01_bits.mono _ _ _)
   | (with_reducible exact apogeeref01_value.mono _ _)
   | (with_reducible exact LeO.refl _)
   | (with_reducible exact LeO.none _)
   | (with_reducible refine LeO.ite ?_ ?_)
   | (with_reducible refine LeO.bind ?_ (fun _ => ?_))
   | exact ih0 _ _ _ _ _
   | exact apogeeref01_bits.mono _ _ _
   | exact apogeeref01_value.mono _ _
   | exact LeO.none _
   | refine LeO.ite ?_ ?_
   | refine LeO.bind ?_ (fun _ => ?_)
theorem apogeeref01_plus.mono : ∀ a0 a1 a2 a3 k, LeO (apogeeref01_plus.f k a0 a1 a2 a3) (apogeeref01_plus.f (k + 1) a0 a1 a2 a3) := by
 intro a0 a1 a2 a3 k
 have ih0 := apogeeref01_plus.mono_l k
 unfold apogeeref01_plus.f
 repeat' first
   | (with_reducible exact ih0 _ _ _ _ _)
   | (with_reducible exact apogeeref01_bits.mono _ _ _)
   | (with_reducible exact apogeeref01_value.mono _ _)
   | (with_reducible exact LeO.refl _)
   | (with_reducible exact LeO.none _)
   | (with_reducible refine LeO.ite ?_ ?_)
   | (with_reducible refine LeO.bind ?_ (fun _ => ?_))
   | exact ih0 _ _ _ _ _
   | exact apogeeref01_bits.mono _ _ _
   | exact apogeeref01_value.mono _ _
   | exact LeO.none _
   | refine LeO.ite ?_ ?_
   | refine LeO.bind ?_ (fun _ => ?_)
def apogeeref01_plus.T7 : Bool × List (List Nat × List Nat) := (true, [([], []), ([], []), ([0, 1], [0, 1]), ([2], [2]), ([], []), ([], []), ([4, 5], [4, 5]), ([6], [6]), ([3, 7], [3, 7]), ([], []), ([8, 9], [8, 9]), ([10, 0, 1, 2, 3, 4, 5, 6, 7, 8, 9, 10], [10])])
def apogeeref01_plus.B7 : List Nat := [0, 0, 3, 7, 0, 0, 48, 112, 255, 0, 1023, 2047]
theorem apogeeref01_plus.tab7 : rtab .any (opsOf Try.f63 7) = apogeeref01_plus.T7 := by kernel_rfl
theorem apogeeref01_plus.bits7 : waitsOk apogeeref01_plus.T7.2 apogeeref01_plus.B7 = true := by kernel_rfl
set_option maxHeartbeats 8000000 in
set_option maxRecDepth 100000 in
theorem apogeeref01_plus.calls (k : Nat) (a0_0 : Int) (a0_1 : Int) (a1_0 : Int) (a1_1 : Int) (r1 : Int) (r2 : Int) (w : World) (h : apogeeref01_plus.f k a0_0 a0_1 a1_0 a1_1 = some (r1, r2)) :
  Calls Try.prog 63 #[.agg #[.int .i64 a0_0, .int .u64 a0_1], .agg #[.int .i64 a1_0, .int .u64 a1_1]] w fun e w' => e = .returned (.agg #[.int .i64 r1, .int .u64 r2]) ∧ Below w.heap.size w w' := by
 have hu66 := Try.underlying66
 have HB := bA (Below.refl w.heap.size w)
 have H : ((apogeeref01_bits.f k a0_0 a0_1).bind fun t310 => ((apogeeref01_bits.f k a1_0 a1_1).bind fun t313 => (apogeeref01_plus.l0 k t310 t313 ([] : List Int) 0 0))) = some (r1, r2) := h
 clear h
 replace H := Option.bind_eq_some_iff.mp H
 obtain ⟨t310, A30, H⟩ := H
 replace H : ((apogeeref01_bits.f k a1_0 a1_1).bind fun t313 => (apogeeref01_plus.l0 k t310 t313 ([] : List Int) 0 0)) = some (r1, r2) := H
 have A3 := bA A30
 clear A30
 replace H := Option.bind_eq_some_iff.mp H
 obtain ⟨t313, A40, H⟩ := H
 replace H : (apogeeref01_plus.l0 k t310 t313 ([] : List Int) 0 0) = some (r1, r2) := H
 have A4 := bA A40
 clear A40
 have H' := bA H
 clear H
 go_enter Try.func63, Try.ntmps63
 try go_wp2_with (first | ((with_reducible refine gate_dst (N := 2) rfl ?_); refine bE (N := 2) (cs := #[.int .i64 a0_0, .int .u64 a0_1]) (t := 66) ?_; intro gb307 hg w5 hbox hb; have n0_ := bA (bS hb); have n1_ := bA (hbox); have n2_ := bA ((bZ hg : w.heap.size ≤ gb307)); have n3_ := bA ((bZ hg : w.heap.size ≤ gb307)); clear HB; have HB := n0_; have BK307 := n1_; have GW307 := n2_; have GE307 := n3_; clear n0_ n1_ n2_ n3_; clear hb hbox hg) | ((with_reducible refine gate_dst (N := 3) rfl ?_); refine bE (N := 3) (cs := #[.int .i64 a1_0, .int .u64 a1_1]) (t := 66) ?_; intro gb308 hg w6 hbox hb; have n0_ := bA (bB BK307 hb); have n1_ := bA (bS hb); have n2_ := bA (hbox); have n3_ := bA ((bZ hg : w.heap.size ≤ gb308)); have n4_ := bA ((bZ hg : w.heap.size ≤ gb308)); have n5_ := bA ((bL BK307 hg : gb307 ≠ gb308)); have n6_ := bA ((bG BK307 hg : gb308 ≠ gb307)); clear BK307; clear HB; have BK307 := n0_; have HB := n1_; have BK308 := n2_; have GW308 := n3_; have GE308 := n4_; have NB307_308 := n5_; have NB308_307 := n6_; clear n0_ n1_ n2_ n3_ n4_ n5_ n6_; clear hb hbox hg) | ((with_reducible refine gate_dst (N := 4) rfl ?_); refine bE (N := 4) (cs := #[.int .i64 0, .int .u64 0]) (t := 66) ?_; intro gb309 hg w7 hbox hb; have n0_ := bA (bB BK307 hb); have n1_ := bA (bB BK308 hb); have n2_ := bA (bS hb); have n3_ := bA (hbox); have n4_ := bA ((bZ hg : w.heap.size ≤ gb309)); have n5_ := bA ((bZ hg : w.heap.size ≤ gb309)); have n6_ := bA ((bL BK307 hg : gb307 ≠ gb309)); have n7_ := bA ((bG BK307 hg : gb309 ≠ gb307)); have n8_ := bA ((bL BK308 hg : gb308 ≠ gb309)); have n9_ := bA ((bG BK308 hg : gb309 ≠ gb308)); clear BK307; clear BK308; clear HB; have BK307 := n0_; have BK308 := n1_; have HB := n2_; have BK309 := n3_; have GW309 := n4_; have GE309 := n5_; have NB307_309 := n6_; have NB309_307 := n7_; have NB308_309 := n8_; have NB309_308 := n9_; clear n0_ n1_ n2_ n3_ n4_ n5_ n6_ n7_ n8_ n9_; clear hb hbox hg))
 have n0_ := bA (blk_drew BK307.out)
 have n1_ := bA (blk_drew BK308.out)
 have n2_ := bA (blk_drew BK309.out)
 have n3_ := bA (below_drew1 HB.out)
 clear BK307
 clear BK308
 clear BK309
 clear HB
 have BK307 := n0_
 have BK308 := n1_
 have BK309 := n2_
 have HB := n3_
 clear n0_ n1_ n2_ n3_
 refine start_ (n := 6) (S := fun w' => w'.cell? ⟨gb307, 0, none⟩ = some (.int .i64 a0_0) ∧ w'.cell? ⟨gb307, 1, none⟩ = some (.int .u64 a0_1) ∧ w'.cell? ⟨gb308, 0, none⟩ = some (.int .i64 a1_0) ∧ w'.cell? ⟨gb308, 1, none⟩ = some (.int .u64 a1_1)) (ds := []) #[false, false, false, false, false, false] (by kernel_rfl) rfl rfl ⟨(blk_cell BK307.out 0).trans rfl, (blk_cell BK307.out 1).trans rfl, (blk_cell BK308.out 0).trans rfl, (blk_cell BK308.out 1).trans rfl⟩ (fun hHeld => ?_)
 generalize w7.drew = w8 at BK307 BK308 BK309 HB hHeld ⊢
 refine take_ (i := 0) (N := some 11) (v := ?_) (a' := ?_) #[true, false, false, false, false, false] rfl rfl (by kernel_rfl) (fun _ _ _ h => h) (Or.inl ⟨by rfl, ?_⟩) hHeld ?_ ?_
 rotate_left
 ·rintro w' ⟨s0, s1, s2, s3⟩
  go_simp
  with_reducible rfl
 rotate_left
 ·simp only [Act.put, List.setIfInBounds_toArray, List.set_cons_zero, List.set_cons_succ, i64_w, i32_w]
  rfl
 refine take_ (i := 2) (N := some 13) (v := ?_) (a' := ?_) #[true, false, true, false, false, false] rfl rfl (by kernel_rfl) (fun _ _ _ h => h) (Or.inl ⟨by rfl, ?_⟩) hHeld ?_ ?_
 rotate_left
 ·rintro w' ⟨s0, s1, s2, s3⟩
  go_simp
  with_reducible rfl
 rotate_left
 ·simp only [Act.put, List.setIfInBounds_toArray, List.set_cons_zero, List.set_cons_succ, i64_w, i32_w]
  rfl
 refine one_ (i := 1) (N := some 12) #[true, true, true, false, false, false] rfl rfl (by kernel_rfl) (by decide) (fun K hK => ?_)
 refine goes_ Try.func74 (by kernel_rfl) rfl #[.agg #[.int .i64 a0_0, .int .u64 a0_1]] (by rfl) rfl rfl (by (try simp only [List.map_toArray, List.map_cons, List.map_nil]); first | done | rfl | (simp only [List.length_drop, List.length_take]; rfl)) ?_
 with_reducible refine (apogeeref01_bits.calls k a0_0 a0_1 t310 _ A3.out).mono ?_
 rintro e w9 ⟨v311, rfl, ho0, hb⟩
 refine ⟨_, rfl, ?_⟩
 have n0_ := bA (Kd.R_lower ho0 bY)
 have n1_ := bA (bB BK307 hb)
 have n2_ := bA (bB BK308 hb)
 have n3_ := bA (bB BK309 hb)
 have n4_ := bA (bS hb)
 clear BK307
 clear BK308
 clear BK309
 clear HB
 have HO312 := n0_
 have BK307 := n1_
 have BK308 := n2_
 have BK309 := n3_
 have HB := n4_
 clear n0_ n1_ n2_ n3_ n4_
 (try clear hb)
 (try clear hb2)
 (try clear hk)
 (try clear hi)
 (try clear ho0)
 refine hK.out _ _ ⟨(blk_cell BK307.out 0).trans rfl, (blk_cell BK307.out 1).trans rfl, (blk_cell BK308.out 0).trans rfl, (blk_cell BK308.out 1).trans rfl⟩ (fun hHeld => ?_)
 clear hK K
 refine norm_ (a' := ?_) ?_ ?_
 rotate_left
 ·show Act.put _ (some 12) _ = _
  simp only [Act.put, List.setIfInBounds_toArray, List.set_cons_zero, List.set_cons_succ, i64_w, i32_w]
  rfl
 refine one_ (i := 3) (N := some 14) #[true, true, true, true, false, false] rfl rfl (by kernel_rfl) (by decide) (fun K hK => ?_)
 refine goes_ Try.func74 (by kernel_rfl) rfl #[.agg #[.int .i64 a1_0, .int .u64 a1_1]] (by rfl) rfl rfl (by (try simp only [List.map_toArray, List.map_cons, List.map_nil]); first | done | rfl | (simp only [List.length_drop, List.length_take]; rfl)) ?_
 with_reducible refine (apogeeref01_bits.calls k a1_0 a1_1 t313 _ A4.out).mono ?_
 rintro e w10 ⟨v314, rfl, ho0, hb⟩
 refine ⟨_, rfl, ?_⟩
 have n0_ := bA (Kd.R_elder' (by (with_reducible repeat (first | apply Kd.R_alloc | apply Kd.R_drewN | apply Kd.R_drew)); exact HO312.out) (Kd.R_base ho0) hb)
 have n1_ := bA (Kd.R_lower (Kd.R_new' ho0 (Kd.R_lt (by (with_reducible repeat (first | apply Kd.R_alloc | apply Kd.R_drewN | apply Kd.R_drew)); exact HO312.out))) bY)
 have n2_ := bA (bB BK307 hb)
 have n3_ := bA (bB BK308 hb)
 have n4_ := bA (bB BK309 hb)
 have n5_ := bA (bS hb)
 clear HO312
 clear BK307
 clear BK308
 clear BK309
 clear HB
 have HO312 := n0_
 have HO315 := n1_
 have BK307 := n2_
 have BK308 := n3_
 have BK309 := n4_
 have HB := n5_
 clear n0_ n1_ n2_ n3_ n4_ n5_
 (try clear hb)
 (try clear hb2)
 (try clear hk)
 (try clear hi)
 (try clear ho0)
 refine hK.out _ _ ⟨(blk_cell BK307.out 0).trans rfl, (blk_cell BK307.out 1).trans rfl, (blk_cell BK308.out 0).trans rfl, (blk_cell BK308.out 1).trans rfl⟩ (fun hHeld => ?_)
 clear hK K
 refine norm_ (a' := ?_) ?_ ?_
 rotate_left
 ·show Act.put _ (some 14) _ = _
  simp only [Act.put, List.setIfInBounds_toArray, List.set_cons_zero, List.set_cons_succ, i64_w, i32_w]
  rfl
 refine pure_ (i := 4) (N := some 5) (v := ?_) (a' := ?_) #[true, true, true, true, true, false] rfl rfl (by kernel_rfl) (fun _ _ _ h => h) (Or.inl ⟨by rfl, ?_⟩) ?_ ?_
 rotate_left
 ·intro w'
  go_simp
  with_reducible rfl
 rotate_left
 ·simp only [Act.put, List.setIfInBounds_toArray, List.set_cons_zero, List.set_cons_succ, i64_w, i32_w]
  rfl
 refine pure_ (i := 5) (N := some 6) (v := ?_) (a' := ?_) #[true, true, true, true, true, true] rfl rfl (by kernel_rfl) (fun _ _ _ h => h) (Or.inl ⟨by rfl, ?_⟩) ?_ ?_
 rotate_left
 ·intro w'
  go_simp
  with_reducible rfl
 rotate_left
 ·simp only [Act.put, List.setIfInBounds_toArray, List.set_cons_zero, List.set_cons_succ, i64_w, i32_w]
  rfl
 refine done_ (by kernel_rfl) ?_
 try go_wp2
 go_loopg [7, 8, 9] k (fun kq v7 v8 v9 w' => ∃ (x7_1 : List Int) (x8_1 : Int) (x9_1 : Int), v8 = .int .i64 x8_1 ∧ v9 = .int .i64 x9_1 ∧ Aside0 (apogeeref01_plus.l0 kq t310 t313 x7_1 x8_1 x9_1 = some (r1, r2)) ∧ Aside0 (kq ≤ k) ∧ Aside0 (Kd.R (Kd.int .i64) 3 w' w.heap.size (fun k_ => some k_ ≠ (v314 : Value).ownBlock ∧ some k_ ≠ (v7 : Value).ownBlock) v311 t310) ∧ Aside0 (Kd.R (Kd.int .i64) 3 w' w.heap.size (fun k_ => some k_ ≠ (v311 : Value).ownBlock ∧ some k_ ≠ (v7 : Value).ownBlock) v314 t313) ∧ Aside0 (Kd.R (Kd.int .i64) 3 w' w.heap.size (fun k_ => some k_ ≠ (v311 : Value).ownBlock ∧ some k_ ≠ (v314 : Value).ownBlock) v7 x7_1) ∧ Aside0 (w'.heap[gb307]? = some (.cells #[.int .i64 a0_0, .int .u64 a0_1] 66 (0, 0))) ∧ Aside0 (w'.heap[gb308]? = some (.cells #[.int .i64 a1_0, .int .u64 a1_1] 66 (0, 0))) ∧ Aside0 (w'.heap[gb309]? = some (.cells #[.int .i64 0, .int .u64 0] 66 (0, 0))) ∧ Aside0 (Below w.heap.size w w'))
 case atStart => exact ⟨(([] : List Int)), (0), (0), (by first | rfl | (simp; done) | (simp [*]; done)), (by first | rfl | (simp; done) | (simp [*]; done)), H', ⟨Nat.le_refl _⟩, ⟨by (with_reducible repeat (first | apply Kd.R_alloc | apply Kd.R_drewN | apply Kd.R_drew)); exact Kd.R_mono HO312.out (fun _ hk => ⟨hk.2, (by simp [Value.ownBlock])⟩)⟩, ⟨by (with_reducible repeat (first | apply Kd.R_alloc | apply Kd.R_drewN | apply Kd.R_drew)); exact Kd.R_mono HO315.out (fun _ hk => ⟨hk.2, (by simp [Value.ownBlock])⟩)⟩, ⟨by first | exact Kd.R_nil _ _ _ _ _ | exact Kd.N_nil _ _ _ _ _ | exact Kd.V_nil _ _ _ _ _ | exact Kd.Q_nil _ _ _ _ _ | exact Kd.S_nil _ _ _ _ _⟩, ⟨by (with_reducible repeat (first | refine blk_drewN ?_ _ | refine blk_drew ?_ | refine blk_alloc ?_ _)); exact BK307.out⟩, ⟨by (with_reducible repeat (first | refine blk_drewN ?_ _ | refine blk_drew ?_ | refine blk_alloc ?_ _)); exact BK308.out⟩, ⟨by (with_reducible repeat (first | refine blk_drewN ?_ _ | refine blk_drew ?_ | refine blk_alloc ?_ _)); exact BK309.out⟩, ⟨bX⟩⟩
 case round =>
  clear H'
  try clear p2
  try clear c6
  try clear c7
  obtain ⟨x7_1, x8_1, x9_1, rfl, rfl, HA, HK1, HO_5, HO_6, HO_7, BK307, BK308, BK309, HB⟩ := hrel
  cases gk with
  | zero => exact absurd HA.out (by simp [apogeeref01_plus.l0])
  | succ k1 =>
   have H := HA.out
   clear HA
   simp only [apogeeref01_plus.l0] at H
   by_cases c11 : x9_1 < 128
   ·rw [if_pos c11] at H
    have c11b0 : decide (x9_1 < 128) = true := decide_eq_true c11
    clear c11
    by_cases c12 : 0 ≤ x9_1
    ·rw [if_pos c12] at H
     have c12b0 : decide (0 ≤ x9_1) = true := decide_eq_true c12
     clear c12
     by_cases c13 : x9_1 < (t310.length : Int)
     ·rw [if_pos c13] at H
      have c13b0 : decide (x9_1 < (t310.length : Int)) = true := decide_eq_true c13
      clear c13
      by_cases c14 : x9_1 < (t313.length : Int)
      ·rw [if_pos c14] at H
       have c14b0 : decide (x9_1 < (t313.length : Int)) = true := decide_eq_true c14
       clear c14
       by_cases c15 : x7_1.length < 17592186044416
       ·rw [if_pos c15] at H
        have LMc15 := bA c15
        clear c15
        obtain ⟨y318, hy318⟩ : ∃ y_ : List Int, y_ = (x7_1 ++ [Int.tmod (wrap64 ((wrap64 ((rd t310 x9_1) + (rd t313 x9_1))) + x8_1)) 2]) := ⟨_, rfl⟩
        replace H : (apogeeref01_plus.l0 k1 t310 t313 y318 (wrap64 (Int.tdiv (wrap64 ((wrap64 ((rd t310 x9_1) + (rd t313 x9_1))) + x8_1)) 2)) (wrap64 (x9_1 + 1))) = some (r1, r2) := by first | (rw [hy318]; with_reducible exact H) | (have H2_ := (Option.bind_some _ _).symm.trans H; rw [hy318]; with_reducible exact H2_) | (have H2_ := (Option.bind_some _ _).symm.trans H; with_reducible exact H2_) | with_reducible exact H | (rw [hy318]; exact H) | exact H
        have Ny318 := bA hy318
        clear hy318
        have H' := bA H
        clear H
        try go_wp2
        have n0_ := bA (Kd.R_drew HO_5.out)
        have n1_ := bA (Kd.R_drew HO_6.out)
        have n2_ := bA (Kd.R_drew HO_7.out)
        have n3_ := bA (blk_drew BK307.out)
        have n4_ := bA (blk_drew BK308.out)
        have n5_ := bA (blk_drew BK309.out)
        have n6_ := bA (below_drew1 HB.out)
        clear HO_5
        clear HO_6
        clear HO_7
        clear BK307
        clear BK308
        clear BK309
        clear HB
        have HO_5 := n0_
        have HO_6 := n1_
        have HO_7 := n2_
        have BK307 := n3_
        have BK308 := n4_
        have BK309 := n5_
        have HB := n6_
        clear n0_ n1_ n2_ n3_ n4_ n5_ n6_
        obtain ⟨Ao17, co17, eo17⟩ := Kd.R_slice HO_5.out
        (first | subst eo17 | (injection eo17 with f1_ f2_ f3_; have f4_ := f1_.symm; have f5_ := f3_.symm; clear f1_ f2_ f3_; subst f4_; subst f5_))
        have p316 : 0 ≤ (x9_1 : Int) := of_decide_eq_true (by first | (with_reducible assumption) | assumption)
        have q316 : x9_1 < (t310.length : Int) := of_decide_eq_true (by first | (with_reducible assumption) | assumption)
        obtain ⟨ad316, e316, hx316_0⟩ := Kd.at_int (Kd.R_reads' HO_5.out).2.2 x9_1 p316 q316
        cases e316
        replace p316 := eq_true p316
        replace q316 := eq_true q316
        obtain ⟨Ao18, co18, eo18⟩ := Kd.R_slice HO_6.out
        (first | subst eo18 | (injection eo18 with f1_ f2_ f3_; have f4_ := f1_.symm; have f5_ := f3_.symm; clear f1_ f2_ f3_; subst f4_; subst f5_))
        have p317 : 0 ≤ (x9_1 : Int) := of_decide_eq_true (by first | (with_reducible assumption) | assumption)
        have q317 : x9_1 < (t313.length : Int) := of_decide_eq_true (by first | (with_reducible assumption) | assumption)
        obtain ⟨ad317, e317, hx317_0⟩ := Kd.at_int (Kd.R_reads' HO_6.out).2.2 x9_1 p317 q317
        cases e317
        replace p317 := eq_true p317
        replace q317 := eq_true q317
        refine start_ (n := 12) (S := fun w' => w'.cell? (ad316.add (x9_1).toNat) = some (.int .i64 (rd t310 x9_1)) ∧ w'.cell? (ad317.add (x9_1).toNat) = some (.int .i64 (rd t313 x9_1))) (ds := []) #[false, false, false, false, false, false, false, false, false, false, false, false] (by kernel_rfl) rfl rfl ⟨hx316_0, hx317_0⟩ (fun hHeld => ?_); refine with_tabW apogeeref01_plus.tab7 apogeeref01_plus.bits7 (fun HT_ HW_ => ?_)
        generalize wr.drew = w16 at HO_5 HO_6 HO_7 BK307 BK308 BK309 HB hx316_0 hx317_0 hHeld ⊢
        refine pure_ (i := 0) (N := some 19) (v := ?_) (a' := ?_) #[true, false, false, false, false, false, false, false, false, false, false, false] rfl rfl (any_of HT_.out (by kernel_rfl)) (fun _ _ _ h => h) (Or.inl ⟨by rfl, ?_⟩) ?_ ?_
        rotate_left
        ·intro w'
         go_simp
         with_reducible rfl
        rotate_left
        ·simp only [Act.put, List.setIfInBounds_toArray, List.set_cons_zero, List.set_cons_succ, i64_w, i32_w]
         rfl
        refine pure_ (i := 1) (N := some 20) (v := ?_) (a' := ?_) #[true, true, false, false, false, false, false, false, false, false, false, false] rfl rfl (any_of HT_.out (by kernel_rfl)) (fun _ _ _ h => h) (Or.inl ⟨by rfl, ?_⟩) ?_ ?_
        rotate_left
        ·intro w'
         go_simp
         with_reducible rfl
        rotate_left
        ·simp only [Act.put, List.setIfInBounds_toArray, List.set_cons_zero, List.set_cons_succ, i64_w, i32_w]
         rfl
        refine pure_ (i := 2) (N := some 21) (v := ?_) (a' := ?_) #[true, true, true, false, false, false, false, false, false, false, false, false] rfl rfl (any_of HT_.out (by kernel_rfl)) (fun _ _ _ h => h) (Or.inl ⟨by rfl, ?_⟩) ?_ ?_
        rotate_left
        ·intro w'
         go_simp
         with_reducible rfl
        rotate_left
        ·simp only [Act.put, List.setIfInBounds_toArray, List.set_cons_zero, List.set_cons_succ, i64_w, i32_w]
         rfl
        refine pure_ (i := 4) (N := some 23) (v := ?_) (a' := ?_) #[true, true, true, false, true, false, false, false, false, false, false, false] rfl rfl (any_of HT_.out (by kernel_rfl)) (fun _ _ _ h => h) (Or.inl ⟨by rfl, ?_⟩) ?_ ?_
        rotate_left
        ·intro w'
         go_simp
         with_reducible rfl
        rotate_left
        ·simp only [Act.put, List.setIfInBounds_toArray, List.set_cons_zero, List.set_cons_succ, i64_w, i32_w]
         rfl
        refine pure_ (i := 5) (N := some 24) (v := ?_) (a' := ?_) #[true, true, true, false, true, true, false, false, false, false, false, false] rfl rfl (any_of HT_.out (by kernel_rfl)) (fun _ _ _ h => h) (Or.inl ⟨by rfl, ?_⟩) ?_ ?_
        rotate_left
        ·intro w'
         go_simp
         with_reducible rfl
        rotate_left
        ·simp only [Act.put, List.setIfInBounds_toArray, List.set_cons_zero, List.set_cons_succ, i64_w, i32_w]
         rfl
        refine pure_ (i := 6) (N := some 25) (v := ?_) (a' := ?_) #[true, true, true, false, true, true, true, false, false, false, false, false] rfl rfl (any_of HT_.out (by kernel_rfl)) (fun _ _ _ h => h) (Or.inl ⟨by rfl, ?_⟩) ?_ ?_
        rotate_left
        ·intro w'
         go_simp
         with_reducible rfl
        rotate_left
        ·simp only [Act.put, List.setIfInBounds_toArray, List.set_cons_zero, List.set_cons_succ, i64_w, i32_w]
         rfl
        refine pure_ (i := 9) (N := some 28) (v := ?_) (a' := ?_) #[true, true, true, false, true, true, true, false, false, true, false, false] rfl rfl (any_of HT_.out (by kernel_rfl)) (fun _ _ _ h => h) (Or.inl ⟨by rfl, ?_⟩) ?_ ?_
        rotate_left
        ·intro w'
         go_simp
         with_reducible rfl
        rotate_left
        ·simp only [Act.put, List.setIfInBounds_toArray, List.set_cons_zero, List.set_cons_succ, i64_w, i32_w]
         rfl
        refine take_ (i := 3) (N := some 22) (v := ?_) (a' := ?_) #[true, true, true, true, true, true, true, false, false, true, false, false] rfl rfl (take_ofW HT_.out HW_.out (by kernel_rfl)) (fun _ _ _ h => h) (Or.inl ⟨by rfl, ?_⟩) hHeld ?_ ?_
        rotate_left
        ·rintro w' ⟨s0, s1⟩
         go_simp
         with_reducible rfl
        rotate_left
        ·simp only [Act.put, List.setIfInBounds_toArray, List.set_cons_zero, List.set_cons_succ, i64_w, i32_w]
         rfl
        refine take_ (i := 7) (N := some 26) (v := ?_) (a' := ?_) #[true, true, true, true, true, true, true, true, false, true, false, false] rfl rfl (take_ofW HT_.out HW_.out (by kernel_rfl)) (fun _ _ _ h => h) (Or.inl ⟨by rfl, ?_⟩) hHeld ?_ ?_
        rotate_left
        ·rintro w' ⟨s0, s1⟩
         go_simp
         with_reducible rfl
        rotate_left
        ·simp only [Act.put, List.setIfInBounds_toArray, List.set_cons_zero, List.set_cons_succ, i64_w, i32_w]
         rfl
        refine pure_ (i := 8) (N := some 27) (v := ?_) (a' := ?_) #[true, true, true, true, true, true, true, true, true, true, false, false] rfl rfl (any_of HT_.out (by kernel_rfl)) (fun _ _ _ h => h) (Or.inl ⟨by rfl, ?_⟩) ?_ ?_
        rotate_left
        ·intro w'
         go_simp
         with_reducible rfl
        rotate_left
        ·simp only [Act.put, List.setIfInBounds_toArray, List.set_cons_zero, List.set_cons_succ, i64_w, i32_w]
         rfl
        refine pure_ (i := 10) (N := some 29) (v := ?_) (a' := ?_) #[true, true, true, true, true, true, true, true, true, true, true, false] rfl rfl (any_of HT_.out (by kernel_rfl)) (fun _ _ _ h => h) (Or.inl ⟨by rfl, ?_⟩) ?_ ?_
        rotate_left
        ·intro w'
         go_simp
         with_reducible rfl
        rotate_left
        ·simp only [Act.put, List.setIfInBounds_toArray, List.set_cons_zero, List.set_cons_succ, i64_w, i32_w]
         rfl
        refine pure_ (i := 11) (N := some 10) (v := ?_) (a' := ?_) #[true, true, true, true, true, true, true, true, true, true, true, true] rfl rfl (any_of HT_.out (by kernel_rfl)) (fun _ _ _ h => h) (Or.inl ⟨by rfl, ?_⟩) ?_ ?_
        rotate_left
        ·intro w'
         go_simp
         with_reducible rfl
        rotate_left
        ·simp only [Act.put, List.setIfInBounds_toArray, List.set_cons_zero, List.set_cons_succ, i64_w, i32_w]
         rfl
        refine done_ (done_of HT_.out (by kernel_rfl)) ?_
        try go_wp2_with (first | ((with_reducible refine gate_builtin (b := .append) (xs := #[.tmp 30, .tmp 33]) rfl ?_); at_builtin; refine Kd.R_append (Kd.int .i64) (w0 := w) w.heap.size rfl (.tmp 30) (.tmp 33) 94 3 (.int .i64 0) 8 rfl Try.underlying94 info3 rfl (by decide) (by omega) u7 x7_1 (Int.tmod (wrap64 ((wrap64 ((rd t310 x9_1) + (rd t313 x9_1))) + x8_1)) 2) [.int .i64 (Int.tmod (wrap64 ((wrap64 ((rd t310 x9_1) + (rd t313 x9_1))) + x8_1)) 2)] (fun k_ => some k_ ≠ (.slice (some ad316) t310.length co17 : Value).ownBlock ∧ some k_ ≠ (.slice (some ad317) t313.length co18 : Value).ownBlock) (fun _ => False) rfl rfl ?aP (fun _ hk => hk.elim) ?aF ?aO ?aB ?aS ?aL ?_; (case aP => exact rfl); (case aB => exact bX); (case aF => exact (fun k_ hk => ⟨Kd.fresh' (Kd.R_lt (by (with_reducible repeat (first | apply Kd.R_alloc | apply Kd.R_drewN | apply Kd.R_drew)); exact HO_5.out)) k_ hk, Kd.fresh' (Kd.R_lt (by (with_reducible repeat (first | apply Kd.R_alloc | apply Kd.R_drewN | apply Kd.R_drew)); exact HO_6.out)) k_ hk⟩)); (case aO => exact (by (with_reducible repeat (first | apply Kd.R_alloc | apply Kd.R_drewN | apply Kd.R_drew)); exact HO_7.out)); (case aS => exact bY); (case aL => have := LMc15.out; omega); intro v319 w19 ho hb hg hat; rw [← Ny318.out] at ho; have n0_ := bA (Kd.R_after (ok := (fun k_ => some k_ ≠ (.slice (some ad317) t313.length co18 : Value).ownBlock)) (by (with_reducible repeat (first | apply Kd.R_alloc | apply Kd.R_drewN | apply Kd.R_drew)); exact HO_5.out) hg hat); have n1_ := bA (Kd.R_after (ok := (fun k_ => some k_ ≠ (.slice (some ad316) t310.length co17 : Value).ownBlock)) (by (with_reducible repeat (first | apply Kd.R_alloc | apply Kd.R_drewN | apply Kd.R_drew)); exact HO_6.out) hg hat); have n2_ := bA (blk_grown (g := gb307) (o := .cells #[.int .i64 a0_0, .int .u64 a0_1] 66 (0, 0)) (by (with_reducible repeat (first | refine blk_drewN ?_ _ | refine blk_drew ?_ | refine blk_alloc ?_ _)); exact BK307.out) hg (Kd.R_ne HO_7.out BK307.out (by decide))); have n3_ := bA (blk_grown (g := gb308) (o := .cells #[.int .i64 a1_0, .int .u64 a1_1] 66 (0, 0)) (by (with_reducible repeat (first | refine blk_drewN ?_ _ | refine blk_drew ?_ | refine blk_alloc ?_ _)); exact BK308.out) hg (Kd.R_ne HO_7.out BK308.out (by decide))); have n4_ := bA (blk_grown (g := gb309) (o := .cells #[.int .i64 0, .int .u64 0] 66 (0, 0)) (by (with_reducible repeat (first | refine blk_drewN ?_ _ | refine blk_drew ?_ | refine blk_alloc ?_ _)); exact BK309.out) hg (Kd.R_ne HO_7.out BK309.out (by decide))); have n5_ := bA (hb); have n6_ := bA (ho); clear HO_5; clear HO_6; clear BK307; clear BK308; clear BK309; clear HB; clear HO_7; have HO_5 := n0_; have HO_6 := n1_; have BK307 := n2_; have BK308 := n3_; have BK309 := n4_; have HB := n5_; have HO320 := n6_; clear n0_ n1_ n2_ n3_ n4_ n5_ n6_; clear ho hb hg hat))
        go_roundg k1
        case measure => have := HK1.out; omega
        case rel => exact ⟨(y318), (wrap64 (Int.tdiv (wrap64 ((wrap64 ((rd t310 x9_1) + (rd t313 x9_1))) + x8_1)) 2)), (wrap64 (x9_1 + 1)), (by first | rfl | (simp; done) | (simp [*]; done)), (by first | rfl | (simp; done) | (simp [*]; done)), H', ⟨by have := HK1.out; omega⟩, ⟨by (with_reducible repeat (first | apply Kd.R_alloc | apply Kd.R_drewN | apply Kd.R_drew)); exact HO_5.out⟩, ⟨by (with_reducible repeat (first | apply Kd.R_alloc | apply Kd.R_drewN | apply Kd.R_drew)); exact HO_6.out⟩, ⟨by (with_reducible repeat (first | apply Kd.R_alloc | apply Kd.R_drewN | apply Kd.R_drew)); exact HO320.out⟩, ⟨by (with_reducible repeat (first | refine blk_drewN ?_ _ | refine blk_drew ?_ | refine blk_alloc ?_ _)); exact BK307.out⟩, ⟨by (with_reducible repeat (first | refine blk_drewN ?_ _ | refine blk_drew ?_ | refine blk_alloc ?_ _)); exact BK308.out⟩, ⟨by (with_reducible repeat (first | refine blk_drewN ?_ _ | refine blk_drew ?_ | refine blk_alloc ?_ _)); exact BK309.out⟩, ⟨bX⟩⟩
       ·rw [if_neg c15] at H
        exact absurd H (by simp)
      ·rw [if_neg c14] at H
       exact absurd H (by simp)
     ·rw [if_neg c13] at H
      exact absurd H (by simp)
    ·rw [if_neg c12] at H
     exact absurd H (by simp)
   ·rw [if_neg c11] at H
    have c11b0 : decide (x9_1 < 128) = false := decide_eq_false c11
    clear c11
    replace H := Option.bind_eq_some_iff.mp H
    obtain ⟨⟨t321, t322⟩, A200, H⟩ := H
    replace H : (some (t321, t322)) = some (r1, r2) := H
    have A20 := bA A200
    clear A200
    simp only [Option.some.injEq, Prod.mk.injEq] at H
    obtain ⟨rfl, rfl⟩ := H
    obtain ⟨Ao21, co21, eo21⟩ := Kd.R_slice HO_7.out
    subst eo21
    go_wp2_with (first | ((first | ((with_reducible refine gate_callee (f := 75) rfl ?_); refine bC (some 38) Try.func75 #[.slice Ao21 x7_1.length co21] ?_) | go_at_call 75); (with_reducible refine (apogeeref01_value.calls k1 _ _ x7_1 t321 t322 _ ?side1 ?side2 A20.out).mono ?_); (case side1 => repeat (first | exact (Kd.R_reads' HO_7.out).2.2 | (with_reducible refine Kd.C_alloc ?_ _) | (with_reducible refine Kd.C_drewN ?_ _) | (with_reducible refine Kd.C_drew ?_))); (case side2 => exact (Kd.R_reads' HO_7.out).2.1); rintro e w22 ⟨rfl, hb⟩; (first | refine ⟨_, rfl, ?_⟩ | skip); have n0_ := bA (Kd.R_below (by (with_reducible repeat (first | apply Kd.R_alloc | apply Kd.R_drewN | apply Kd.R_drew)); exact HO_5.out) hb); have n1_ := bA (Kd.R_below (by (with_reducible repeat (first | apply Kd.R_alloc | apply Kd.R_drewN | apply Kd.R_drew)); exact HO_6.out) hb); have n2_ := bA (Kd.R_below (by (with_reducible repeat (first | apply Kd.R_alloc | apply Kd.R_drewN | apply Kd.R_drew)); exact HO_7.out) hb); have n3_ := bA (bB BK307 hb); have n4_ := bA (bB BK308 hb); have n5_ := bA (bB BK309 hb); have n6_ := bA (bS hb); clear HO_5; clear HO_6; clear HO_7; clear BK307; clear BK308; clear BK309; clear HB; have HO_5 := n0_; have HO_6 := n1_; have HO_7 := n2_; have BK307 := n3_; have BK308 := n4_; have BK309 := n5_; have HB := n6_; clear n0_ n1_ n2_ n3_ n4_ n5_ n6_; (try clear hb); (try clear hb2); (try clear hk); (try clear hi); have hnb23 := NB309_307.out; have hnc23 := NB307_309.out; have hnb24 := NB309_308.out; have hnc24 := NB308_309.out; have hcz25_0 : w22.cell? ⟨gb309, 0, none⟩ = some (.int .i64 0) := (blk_cell BK309.out 0).trans rfl; have hcz25_1 : w22.cell? ⟨gb309, 1, none⟩ = some (.int .u64 0) := (blk_cell BK309.out 1).trans rfl; have hfz25_0 := blk_frozen BK309.out 0; have hfz25_1 := blk_frozen BK309.out 1))
    refine bodyPost_ret (results_cell_row rfl _ _ gb309 66 #[.int .i64 t321, .int .u64 t322] (0, 0) _ rfl (by (with_reducible repeat (first | refine blk_drewN ?_ _ | refine blk_drew ?_ | refine blk_alloc ?_ _)); refine blk_put (cs := #[.int .i64 t321, .int .u64 0]) ?_ 1 _ rfl; (with_reducible repeat (first | refine blk_drewN ?_ _ | refine blk_drew ?_ | refine blk_alloc ?_ _)); refine blk_put (cs := #[.int .i64 0, .int .u64 0]) ?_ 0 _ rfl; (with_reducible repeat (first | refine blk_drewN ?_ _ | refine blk_drew ?_ | refine blk_alloc ?_ _)); exact BK309.out) Try.underlying66 rfl (by kernel_rfl)) rfl ?_
    exact bF
/-! ### apogeeref01_Flip: function 64 -/
def apogeeref01_Flip.f (k : Nat) (a0_0 : Int) (a0_1 : Int) : Option (Int × Int) := (apogeeref01_plus.f k (Go.bits .xor .i64 (-1) a0_0) (Go.bits .xor .u64 (-1) a0_1) 0 1).bind fun bt325 => (some (bt325.1, bt325.2))
theorem apogeeref01_Flip.mono : ∀ a0 a1 k, LeO (apogeeref01_Flip.f k a0 a1) (apogeeref01_Flip.f (k + 1) a0 a1) := by
 intro a0 a1 k
 unfold apogeeref01_Flip.f
 repeat' first
   | (with_reducible exact apogeeref01_plus.mono _ _ _ _ _)
   | (with_reducible exact LeO.refl _)
   | (with_reducible exact LeO.none _)
   | (with_reducible refine LeO.ite ?_ ?_)
   | (with_reducible refine LeO.bind ?_ (fun _ => ?_))
   | exact apogeeref01_plus.mono _ _ _ _ _
   | exact LeO.none _
   | refine LeO.ite ?_ ?_
   | refine LeO.bind ?_ (fun _ => ?_)
set_option maxHeartbeats 8000000 in
set_option maxRecDepth 100000 in
theorem apogeeref01_Flip.calls (k : Nat) (a0_0 : Int) (a0_1 : Int) (r1 : Int) (r2 : Int) (w : World) (h : apogeeref01_Flip.f k a0_0 a0_1 = some (r1, r2)) :
  Calls Try.prog 64 #[.agg #[.int .i64 a0_0, .int .u64 a0_1]] w fun e w' => e = .returned (.agg #[.int .i64 r1, .int .u64 r2]) ∧ Below w.heap.size w w' := by
 have hu66 := Try.underlying66
 have HB := bA (Below.refl w.heap.size w)
 have H : ((apogeeref01_plus.f k (Go.bits .xor .i64 (-1) a0_0) (Go.bits .xor .u64 (-1) a0_1) 0 1).bind fun bt325 => (some (bt325.1, bt325.2))) = some (r1, r2) := h
 clear h
 replace H := Option.bind_eq_some_iff.mp H
 obtain ⟨⟨t325, t326⟩, A20, H⟩ := H
 replace H : (some (t325, t326)) = some (r1, r2) := H
 have A2 := bA A20
 clear A20
 simp only [Option.some.injEq, Prod.mk.injEq] at H
 obtain ⟨rfl, rfl⟩ := H
 go_enter Try.func64, Try.ntmps64
 go_wp2_with (first | ((with_reducible refine gate_dst (N := 1) rfl ?_); refine bE (N := 1) (cs := #[.int .i64 a0_0, .int .u64 a0_1]) (t := 66) ?_; intro gb323 hg w3 hbox hb; have n0_ := bA (bS hb); have n1_ := bA (hbox); have n2_ := bA ((bZ hg : w.heap.size ≤ gb323)); have n3_ := bA ((bZ hg : w.heap.size ≤ gb323)); clear HB; have HB := n0_; have BK323 := n1_; have GW323 := n2_; have GE323 := n3_; clear n0_ n1_ n2_ n3_; clear hb hbox hg) | ((with_reducible refine gate_dst (N := 2) rfl ?_); refine bE (N := 2) (cs := #[.int .i64 0, .int .u64 0]) (t := 66) ?_; intro gb324 hg w4 hbox hb; have n0_ := bA (bB BK323 hb); have n1_ := bA (bS hb); have n2_ := bA (hbox); have n3_ := bA ((bZ hg : w.heap.size ≤ gb324)); have n4_ := bA ((bZ hg : w.heap.size ≤ gb324)); have n5_ := bA ((bL BK323 hg : gb323 ≠ gb324)); have n6_ := bA ((bG BK323 hg : gb324 ≠ gb323)); clear BK323; clear HB; have BK323 := n0_; have HB := n1_; have BK324 := n2_; have GW324 := n3_; have GE324 := n4_; have NB323_324 := n5_; have NB324_323 := n6_; clear n0_ n1_ n2_ n3_ n4_ n5_ n6_; clear hb hbox hg; have hnb5 := NB323_324.out; have hnc5 := NB324_323.out; have hcz6_0 : w4.cell? ⟨gb323, 0, none⟩ = some (.int .i64 a0_0) := (blk_cell BK323.out 0).trans rfl; have hcz6_1 : w4.cell? ⟨gb323, 1, none⟩ = some (.int .u64 a0_1) := (blk_cell BK323.out 1).trans rfl; have hfz6_0 := blk_frozen BK323.out 0; have hfz6_1 := blk_frozen BK323.out 1) | ((first | ((with_reducible refine gate_callee (f := 63) rfl ?_); refine bC (some 11) Try.func63 #[.agg #[.int .i64 (Go.bits .xor .i64 (-1) a0_0), .int .u64 (Go.bits .xor .u64 (-1) a0_1)], .agg #[.int .i64 0, .int .u64 1]] ?_) | go_at_call 63); (with_reducible refine (apogeeref01_plus.calls k (Go.bits .xor .i64 (-1) a0_0) (Go.bits .xor .u64 (-1) a0_1) 0 1 t325 t326 _ A2.out).mono ?_); rintro e w7 ⟨rfl, hb⟩; (first | refine ⟨_, rfl, ?_⟩ | skip); have n0_ := bA (bB BK323 hb); have n1_ := bA (bB BK324 hb); have n2_ := bA (bS hb); clear BK323; clear BK324; clear HB; have BK323 := n0_; have BK324 := n1_; have HB := n2_; clear n0_ n1_ n2_; (try clear hb); (try clear hb2); (try clear hk); (try clear hi); have hcz8_0 : w7.cell? ⟨gb324, 0, none⟩ = some (.int .i64 0) := (blk_cell BK324.out 0).trans rfl; have hcz8_1 : w7.cell? ⟨gb324, 1, none⟩ = some (.int .u64 0) := (blk_cell BK324.out 1).trans rfl; have hfz8_0 := blk_frozen BK324.out 0; have hfz8_1 := blk_frozen BK324.out 1))
 refine bodyPost_ret (results_cell_row rfl _ _ gb324 66 #[.int .i64 t325, .int .u64 t326] (0, 0) _ rfl (by (with_reducible repeat (first | refine blk_drewN ?_ _ | refine blk_drew ?_ | refine blk_alloc ?_ _)); refine blk_put (cs := #[.int .i64 t325, .int .u64 0]) ?_ 1 _ rfl; (with_reducible repeat (first | refine blk_drewN ?_ _ | refine blk_drew ?_ | refine blk_alloc ?_ _)); refine blk_put (cs := #[.int .i64 0, .int .u64 0]) ?_ 0 _ rfl; (with_reducible repeat (first | refine blk_drewN ?_ _ | refine blk_drew ?_ | refine blk_alloc ?_ _)); exact BK324.out) Try.underlying66 rfl (by kernel_rfl)) rfl ?_
 exact bF
end Go.Proofs.Ytlifeghjcgbfnaa.G
