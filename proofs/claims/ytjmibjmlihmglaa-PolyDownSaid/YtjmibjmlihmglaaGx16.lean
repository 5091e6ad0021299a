-- Written by a program of this session out of the translation; Lean checks it.
import Derived.Test.YtjmibjmlihmglaaGx0
import Derived.Test.YtjmibjmlihmglaaGx14
import Derived.Test.YtjmibjmlihmglaaGx15
namespace Go.Proofs.Ytjmibjmlihmglaa.G
open Go.RowKit Go.Proofs.YtjmibjmlihmglaaW.PrintWords Go.Proofs.YtjmibjmlihmglaaW.PrintLast Go.Proofs.YtjmibjmlihmglaaW.PrintMore
attribute [local go_sem] max2_int min2_int max_two min_two max_three min_three max_four min_four   -- for this text's walks alone
set_option linter.unusedVariables false
set_option linter.unusedSimpArgs false

/-! ### apogeeref01_plus: function 109 -/
def apogeeref01_plus.l0 : Nat → List Int → List Int → List Int → Int → Int → Option (Int × Int)
 | 0, _, _, _, _, _ => none
 | k + 1, x5, x6, x7, x8, x9 => if x9 < 128 then (if 0 ≤ x9 then (if x9 < (x5.length : Int) then (if x9 < (x6.length : Int) then (if x7.length < 17592186044416 then (apogeeref01_plus.l0 k x5 x6 (x7 ++ [Int.tmod (wrap64 ((wrap64 ((rd x5 x9) + (rd x6 x9))) + x8)) 2]) (wrap64 (Int.tdiv (wrap64 ((wrap64 ((rd x5 x9) + (rd x6 x9))) + x8)) 2)) (wrap64 (x9 + 1))) else (none)) else (none)) else (none)) else (none)) else ((apogeeref01_value.f k x7).bind fun bt377 => (some (bt377.1, bt377.2)))
def apogeeref01_plus.f (k : Nat) (a0_0 : Int) (a0_1 : Int) (a1_0 : Int) (a1_1 : Int) : Option (Int × Int) := (apogeeref01_bits.f k a0_0 a0_1).bind fun t366 => ((apogeeref01_bits.f k a1_0 a1_1).bind fun t369 => (apogeeref01_plus.l0 k t366 t369 ([] : List Int) 0 0))
theorem apogeeref01_plus.mono_l : ∀ k, (∀ y0 y1 y2 y3 y4, LeO (apogeeref01_plus.l0 k y0 y1 y2 y3 y4) (apogeeref01_plus.l0 (k + 1) y0 y1 y2 y3 y4))
 | 0 => fun _ _ _ _ _ r h => by simp [apogeeref01_plus.l0] at h
 | k + 1 => by
  have ih0 := apogeeref01_plus.mono_l k
  ·intro y0 y1 y2 y3 y4
   unfold apogeeref01_plus.l0
   repeat' first
   | (with_reducible exact ih0 _ _ _ _ _)
   | (with_reducible exact apogeeref01_bits.mono _ _ _)
   | (with_reducible exact apogeeref01_value.mono _ _)
   | (with_reducible exact LeO.refl _)
   | (with_reducible exact LeO.none _)
   | (with_reducible refine LeO.ite ?_ ?_)
   | (with_reducible refine LeO.bind ?_ (fun _ => ?_))
   | exact ih0 _ _ _ _ _
   | exact apogeeref01_bits.mono _ _ _
   | exact apogeeref01_value.mono _ _
   | exact LeO.none _
   | refine LeO.ite ?_ ?_
   | refine LeO.bind ?_ (fun _ => ?_)
theorem apogeeref01_plus.mono : ∀ a0 a1 a2 a3 k, LeO (apogeeref01_plus.f k a0 a1 a2 a3) (apogeeref01_plus.f (k + 1) a0 a1 a2 a3) := by
 intro a0 a1 a2 a3 k
 have ih0 := apogeeref01_plus.mono_l k
 unfold apogeeref01_plus.f
 repeat' first
   | (with_reducible exact ih0 _ _ _ _ _)
   | (with_reducible exact apogeeref01_bits.mono _ _ _)
   | (with_reducible exact apogeeref01_value.mono _ _)
   | (with_reducible exact LeO.refl _)
   | (with_reducible exact LeO.none _)
   | (with_reducible refine LeO.ite ?_ ?_)
   | (with_reducible refine LeO.bind ?_ (fun _ => ?_))
   | exact ih0 _ _ _ _ _
   | exact apogeeref01_bits.mono _ _ _
   | exact apogeeref01_value.mono _ _
   | exact LeO.none _
   | refine LeO.ite ?_ ?_
   | refine LeO.bind ?_ (fun _ => ?_)
def apogeeref01_plus.T7 : Bool × List (List Nat × List Nat) := (true, [([], []), ([], []), ([0, 1], [0, 1]), ([2], [2]), ([], []), ([], []), ([4, 5], [4, 5]), ([6], [6]), ([3, 7], [3, 7]), ([], []), ([8, 9], [8, 9]), ([10, 0, 1, 2, 3, 4, 5, 6, 7, 8, 9, 10], [10])])
def apogeeref01_plus.B7 : List Nat := [0, 0, 3, 7, 0, 0, 48, 112, 255, 0, 1023, 2047]
theorem apogeeref01_plus.tab7 : rtab .any (opsOf Try.f109 7) = apogeeref01_plus.T7 := by kernel_rfl
theorem apogeeref01_plus.bits7 : waitsOk apogeeref01_plus.T7.2 apogeeref01_plus.B7 = true := by kernel_rfl
set_option maxHeartbeats 8000000 in
set_option maxRecDepth 100000 in
theorem apogeeref01_plus.calls (k : Nat) (a0_0 : Int) (a0_1 : Int) (a1_0 : Int) (a1_1 : Int) (r1 : Int) (r2 : Int) (w : World) (h : apogeeref01_plus.f k a0_0 a0_1 a1_0 a1_1 = some (r1, r2)) :
  Calls Try.prog 109 #[.agg #[.int .i64 a0_0, .int .u64 a0_1], .agg #[.int .i64 a1_0, .int .u64 a1_1]] w fun e w' => e = .returned (.agg #[.int .i64 r1, .int .u64 r2]) ∧ Below w.heap.size w w' := by
 have hu90 := Try.underlying90
 have HB := bA (Below.refl w.heap.size w)
 have H : ((apogeeref01_bits.f k a0_0 a0_1).bind fun t366 => ((apogeeref01_bits.f k a1_0 a1_1).bind fun t369 => (apogeeref01_plus.l0 k t366 t369 ([] : List Int) 0 0))) = some (r1, r2) := h
 clear h
 replace H := Option.bind_eq_some_iff.mp H
 obtain ⟨t366, A30, H⟩ := H
 have A3 := bA A30
 clear A30
 replace H := Option.bind_eq_some_iff.mp H
 obtain ⟨t369, A40, H⟩ := H
 have A4 := bA A40
 clear A40
 have H' := bA H
 clear H
 go_enter Try.func109, Try.ntmps109
 try go_wp2_with (first | ((with_reducible refine gate_dst (N := 2) rfl ?_); refine bE (N := 2) (cs := #[.int .i64 a0_0, .int .u64 a0_1]) (t := 90) ?_; intro gb363 hg w5 hbox hb; have BK363 := bA (hbox); have GW363 := bA (bZ hg); have GE363 := bA (bZ hg); replace HB := bA (bS hb); clear hb hbox hg) | ((with_reducible refine gate_dst (N := 3) rfl ?_); refine bE (N := 3) (cs := #[.int .i64 a1_0, .int .u64 a1_1]) (t := 90) ?_; intro gb364 hg w6 hbox hb; have BK364 := bA (hbox); have GW364 := bA (bZ hg); have GE364 := bA (bZ hg); have NB363_364 := bA (bL BK363 hg); have NB364_363 := bA (bG BK363 hg); replace BK363 := bA (bB BK363 hb); replace HB := bA (bS hb); clear hb hbox hg) | ((with_reducible refine gate_dst (N := 4) rfl ?_); refine bE (N := 4) (cs := #[.int .i64 0, .int .u64 0]) (t := 90) ?_; intro gb365 hg w7 hbox hb; have BK365 := bA (hbox); have GW365 := bA (bZ hg); have GE365 := bA (bZ hg); have NB363_365 := bA (bL BK363 hg); have NB365_363 := bA (bG BK363 hg); have NB364_365 := bA (bL BK364 hg); have NB365_364 := bA (bG BK364 hg); replace BK363 := bA (bB BK363 hb); replace BK364 := bA (bB BK364 hb); replace HB := bA (bS hb); clear hb hbox hg))
 replace BK363 := bA (blk_drew BK363.out)
 replace BK364 := bA (blk_drew BK364.out)
 replace BK365 := bA (blk_drew BK365.out)
 replace HB := bA (below_drew1 HB.out)
 refine start_ (n := 6) (S := fun w' => w'.cell? ⟨gb363, 0, none⟩ = some (.int .i64 a0_0) ∧ w'.cell? ⟨gb363, 1, none⟩ = some (.int .u64 a0_1) ∧ w'.cell? ⟨gb364, 0, none⟩ = some (.int .i64 a1_0) ∧ w'.cell? ⟨gb364, 1, none⟩ = some (.int .u64 a1_1)) (ds := []) #[false, false, false, false, false, false] (by kernel_rfl) rfl rfl ⟨bq BK363 0, bq BK363 1, bq BK364 0, bq BK364 1⟩ (fun hHeld => ?_)
 generalize w7.drew = w8 at BK363 BK364 BK365 HB hHeld ⊢
 refine take_ (i := 0) (N := some 11) (v := ?_) (a' := ?_) #[true, false, false, false, false, false] rfl rfl (by kernel_rfl) (fun _ _ _ h => h) (Or.inl ⟨by rfl, ?_⟩) hHeld ?_ ?_
 rotate_left
 ·rintro w' ⟨s0, s1, s2, s3⟩
  go_simp
  with_reducible rfl
 rotate_left
 ·simp only [Act.put, List.setIfInBounds_toArray, List.set_cons_zero, List.set_cons_succ, i64_w, i32_w]
  rfl
 refine take_ (i := 2) (N := some 13) (v := ?_) (a' := ?_) #[true, false, true, false, false, false] rfl rfl (by kernel_rfl) (fun _ _ _ h => h) (Or.inl ⟨by rfl, ?_⟩) hHeld ?_ ?_
 rotate_left
 ·rintro w' ⟨s0, s1, s2, s3⟩
  go_simp
  with_reducible rfl
 rotate_left
 ·simp only [Act.put, List.setIfInBounds_toArray, List.set_cons_zero, List.set_cons_succ, i64_w, i32_w]
  rfl
 refine one_ (i := 1) (N := some 12) #[true, true, true, false, false, false] rfl rfl (by kernel_rfl) (by decide) (fun K hK => ?_)
 refine goes_ Try.func118 (by kernel_rfl) rfl #[.agg #[.int .i64 a0_0, .int .u64 a0_1]] (by rfl) rfl rfl (by (try simp only [List.map_toArray, List.map_cons, List.map_nil]); first | done | rfl | (simp only [List.length_drop, List.length_take]; rfl)) ?_
 with_reducible refine (apogeeref01_bits.calls k a0_0 a0_1 t366 _ A3.out).mono ?_
 rintro e w9 ⟨v367, rfl, ho0, hb⟩
 refine ⟨_, rfl, ?_⟩
 have HO368 := bA (Kd.R_lower ho0 bY)
 replace BK363 := bA (bB BK363 hb)
 replace BK364 := bA (bB BK364 hb)
 replace BK365 := bA (bB BK365 hb)
 replace HB := bA (bS hb)
 (try clear hb)
 (try clear ho0)
 refine hK.out _ _ ⟨bq BK363 0, bq BK363 1, bq BK364 0, bq BK364 1⟩ (fun hHeld => ?_)
 clear hK K
 refine bH ?_
 refine one_ (i := 3) (N := some 14) #[true, true, true, true, false, false] rfl rfl (by kernel_rfl) (by decide) (fun K hK => ?_)
 refine goes_ Try.func118 (by kernel_rfl) rfl #[.agg #[.int .i64 a1_0, .int .u64 a1_1]] (by rfl) rfl rfl (by (try simp only [List.map_toArray, List.map_cons, List.map_nil]); first | done | rfl | (simp only [List.length_drop, List.length_take]; rfl)) ?_
 with_reducible refine (apogeeref01_bits.calls k a1_0 a1_1 t369 _ A4.out).mono ?_
 rintro e w10 ⟨v370, rfl, ho0, hb⟩
 refine ⟨_, rfl, ?_⟩
 have HO371 := bA (Kd.R_lower (Kd.R_new' ho0 (Kd.R_lt (bRr HO368))) bY)
 replace HO368 := bA (Kd.R_elder' (bRr HO368) (Kd.R_base ho0) hb)
 replace BK363 := bA (bB BK363 hb)
 replace BK364 := bA (bB BK364 hb)
 replace BK365 := bA (bB BK365 hb)
 replace HB := bA (bS hb)
 (try clear hb)
 (try clear ho0)
 refine hK.out _ _ ⟨bq BK363 0, bq BK363 1, bq BK364 0, bq BK364 1⟩ (fun hHeld => ?_)
 clear hK K
 refine bH ?_
 refine pure_ (i := 4) (N := some 5) (v := ?_) (a' := ?_) #[true, true, true, true, true, false] rfl rfl (by kernel_rfl) (fun _ _ _ h => h) (Or.inl ⟨by rfl, ?_⟩) ?_ ?_
 rotate_left
 ·intro w'
  go_simp
  with_reducible rfl
 rotate_left
 ·simp only [Act.put, List.setIfInBounds_toArray, List.set_cons_zero, List.set_cons_succ, i64_w, i32_w]
  rfl
 refine pure_ (i := 5) (N := some 6) (v := ?_) (a' := ?_) #[true, true, true, true, true, true] rfl rfl (by kernel_rfl) (fun _ _ _ h => h) (Or.inl ⟨by rfl, ?_⟩) ?_ ?_
 rotate_left
 ·intro w'
  go_simp
  with_reducible rfl
 rotate_left
 ·simp only [Act.put, List.setIfInBounds_toArray, List.set_cons_zero, List.set_cons_succ, i64_w, i32_w]
  rfl
 refine done_ (by kernel_rfl) ?_
 try go_wp2
 go_loopg [7, 8, 9] k (fun kq v7 v8 v9 w' => ∃ (x7_1 : List Int) (x8_1 : Int) (x9_1 : Int), v8 = .int .i64 x8_1 ∧ v9 = .int .i64 x9_1 ∧ Aside0 (apogeeref01_plus.l0 kq t366 t369 x7_1 x8_1 x9_1 = some (r1, r2)) ∧ Aside0 (kq ≤ k) ∧ Aside0 (Kd.R (Kd.int .i64) 3 w' w.heap.size (fun k_ => some k_ ≠ (v370 : Value).ownBlock ∧ some k_ ≠ (v7 : Value).ownBlock) v367 t366) ∧ Aside0 (Kd.R (Kd.int .i64) 3 w' w.heap.size (fun k_ => some k_ ≠ (v367 : Value).ownBlock ∧ some k_ ≠ (v7 : Value).ownBlock) v370 t369) ∧ Aside0 (Kd.R (Kd.int .i64) 3 w' w.heap.size (fun k_ => some k_ ≠ (v367 : Value).ownBlock ∧ some k_ ≠ (v370 : Value).ownBlock) v7 x7_1) ∧ Aside0 (w'.heap[gb363]? = some (.cells #[.int .i64 a0_0, .int .u64 a0_1] 90 (0, 0))) ∧ Aside0 (w'.heap[gb364]? = some (.cells #[.int .i64 a1_0, .int .u64 a1_1] 90 (0, 0))) ∧ Aside0 (w'.heap[gb365]? = some (.cells #[.int .i64 0, .int .u64 0] 90 (0, 0))) ∧ Aside0 (Below w.heap.size w w'))
 case atStart => exact ⟨(([] : List Int)), (0), (0), bs, bs, H', ⟨Nat.le_refl _⟩, ⟨by (with_reducible repeat (first | apply Kd.R_alloc | apply Kd.R_drewN | apply Kd.R_drew)); exact Kd.R_mono HO368.out (fun _ hk => ⟨hk.2, (by simp [Value.ownBlock])⟩)⟩, ⟨by (with_reducible repeat (first | apply Kd.R_alloc | apply Kd.R_drewN | apply Kd.R_drew)); exact Kd.R_mono HO371.out (fun _ hk => ⟨hk.2, (by simp [Value.ownBlock])⟩)⟩, ⟨by first | exact Kd.R_nil _ _ _ _ _ | exact Kd.N_nil _ _ _ _ _ | exact Kd.V_nil _ _ _ _ _ | exact Kd.Q_nil _ _ _ _ _ | exact Kd.S_nil _ _ _ _ _⟩, ⟨by (with_reducible repeat (first | refine blk_drewN ?_ _ | refine blk_drew ?_ | refine blk_alloc ?_ _)); exact BK363.out⟩, ⟨by (with_reducible repeat (first | refine blk_drewN ?_ _ | refine blk_drew ?_ | refine blk_alloc ?_ _)); exact BK364.out⟩, ⟨by (with_reducible repeat (first | refine blk_drewN ?_ _ | refine blk_drew ?_ | refine blk_alloc ?_ _)); exact BK365.out⟩, ⟨bX⟩⟩
 clear H'
 try clear c1
 try clear p2
 try clear c10
 obtain ⟨x7_1, x8_1, x9_1, rfl, rfl, HA, HK1, HO_5, HO_6, HO_7, BK363, BK364, BK365, HB⟩ := hrel
 cases gk with
 | zero => exact absurd HA.out (by simp [apogeeref01_plus.l0])
 | succ k1 =>
  have H := HA.out
  clear HA
  simp only [apogeeref01_plus.l0] at H
  by_cases c11 : x9_1 < 128
  rotate_left
  ·rw [if_neg c11] at H
   have c11b0 : decide (x9_1 < 128) = false := decide_eq_false c11
   clear c11
   replace H := Option.bind_eq_some_iff.mp H
   obtain ⟨⟨t377, t378⟩, A200, H⟩ := H
   replace H : (some (t377, t378)) = some (r1, r2) := H
   have A20 := bA A200
   clear A200
   simp only [Option.some.injEq, Prod.mk.injEq] at H
   obtain ⟨rfl, rfl⟩ := H
   obtain ⟨Ao21, co21, eo21⟩ := Kd.R_slice HO_7.out
   subst eo21
   go_wp2_with (first | ((first | ((with_reducible refine gate_callee (f := 119) rfl ?_); refine bC (some 38) Try.func119 #[.slice Ao21 x7_1.length co21] ?_) | go_at_call 119); (with_reducible refine (apogeeref01_value.calls k1 _ _ x7_1 t377 t378 _ ?side1 ?side2 A20.out).mono ?_); (case side1 => repeat (first | exact (Kd.R_reads' HO_7.out).2.2 | (with_reducible refine Kd.C_alloc ?_ _) | (with_reducible refine Kd.C_drewN ?_ _) | (with_reducible refine Kd.C_drew ?_))); (case side2 => exact (Kd.R_reads' HO_7.out).2.1); rintro e w22 ⟨rfl, hb⟩; (first | refine ⟨_, rfl, ?_⟩ | skip); replace HO_5 := bA (Kd.R_below (bRr HO_5) hb); replace HO_6 := bA (Kd.R_below (bRr HO_6) hb); replace HO_7 := bA (Kd.R_below (bRr HO_7) hb); replace BK363 := bA (bB BK363 hb); replace BK364 := bA (bB BK364 hb); replace BK365 := bA (bB BK365 hb); replace HB := bA (bS hb); (try clear hb); have hnb23 := NB365_363.out; have hnc23 := NB363_365.out; have hnb24 := NB365_364.out; have hnc24 := NB364_365.out; obtain ⟨hcz25_0, hcz25_1, hfz25_0, hfz25_1⟩ := bc2 BK365))
   refine bodyPost_ret (results_cell_row rfl _ _ gb365 90 #[.int .i64 t377, .int .u64 t378] (0, 0) _ rfl (by (with_reducible repeat (first | refine blk_drewN ?_ _ | refine blk_drew ?_ | refine blk_alloc ?_ _)); refine blk_put (cs := #[.int .i64 t377, .int .u64 0]) ?_ 1 _ rfl; (with_reducible repeat (first | refine blk_drewN ?_ _ | refine blk_drew ?_ | refine blk_alloc ?_ _)); refine blk_put (cs := #[.int .i64 0, .int .u64 0]) ?_ 0 _ rfl; (with_reducible repeat (first | refine blk_drewN ?_ _ | refine blk_drew ?_ | refine blk_alloc ?_ _)); exact BK365.out) Try.underlying90 rfl (by kernel_rfl)) rfl ?_
   exact bF
  rw [if_pos c11] at H
  have c11b0 : decide (x9_1 < 128) = true := decide_eq_true c11
  clear c11
  by_cases c12 : 0 ≤ x9_1
  rotate_left
  ·rw [if_neg c12] at H
   exact absurd H (by simp)
  rw [if_pos c12] at H
  have c12b0 : decide (0 ≤ x9_1) = true := decide_eq_true c12
  clear c12
  by_cases c13 : x9_1 < (t366.length : Int)
  rotate_left
  ·rw [if_neg c13] at H
   exact absurd H (by simp)
  rw [if_pos c13] at H
  have c13b0 : decide (x9_1 < (t366.length : Int)) = true := decide_eq_true c13
  clear c13
  by_cases c14 : x9_1 < (t369.length : Int)
  rotate_left
  ·rw [if_neg c14] at H
   exact absurd H (by simp)
  rw [if_pos c14] at H
  have c14b0 : decide (x9_1 < (t369.length : Int)) = true := decide_eq_true c14
  clear c14
  by_cases c15 : x7_1.length < 17592186044416
  rotate_left
  ·rw [if_neg c15] at H
   exact absurd H (by simp)
  rw [if_pos c15] at H
  have LMc15 := bA c15
  clear c15
  obtain ⟨y374, hy374⟩ : ∃ y_ : List Int, y_ = (x7_1 ++ [Int.tmod (wrap64 ((wrap64 ((rd t366 x9_1) + (rd t369 x9_1))) + x8_1)) 2]) := ⟨_, rfl⟩
  replace H : (apogeeref01_plus.l0 k1 t366 t369 y374 (wrap64 (Int.tdiv (wrap64 ((wrap64 ((rd t366 x9_1) + (rd t369 x9_1))) + x8_1)) 2)) (wrap64 (x9_1 + 1))) = some (r1, r2) := by first | (rw [hy374]; with_reducible exact H) | (have H2_ := (Option.bind_some _ _).symm.trans H; rw [hy374]; with_reducible exact H2_) | (have H2_ := (Option.bind_some _ _).symm.trans H; with_reducible exact H2_) | with_reducible exact H | (rw [hy374]; exact H) | exact H
  have Ny374 := bA hy374
  clear hy374
  have H' := bA H
  clear H
  try go_wp2
  replace HO_5 := bA (Kd.R_drew HO_5.out)
  replace HO_6 := bA (Kd.R_drew HO_6.out)
  replace HO_7 := bA (Kd.R_drew HO_7.out)
  replace BK363 := bA (blk_drew BK363.out)
  replace BK364 := bA (blk_drew BK364.out)
  replace BK365 := bA (blk_drew BK365.out)
  replace HB := bA (below_drew1 HB.out)
  obtain ⟨Ao17, co17, eo17⟩ := Kd.R_slice HO_5.out
  (first | subst eo17 | (injection eo17 with f1_ f2_ f3_; have f4_ := f1_.symm; have f5_ := f3_.symm; clear f1_ f2_ f3_; subst f4_; subst f5_))
  have p372 : 0 ≤ (x9_1 : Int) := bo
  have q372 : x9_1 < (t366.length : Int) := bo
  obtain ⟨ad372, e372, hx372_0⟩ := Kd.at_int (Kd.R_reads' HO_5.out).2.2 x9_1 p372 q372
  cases e372
  replace p372 := eq_true p372
  replace q372 := eq_true q372
  obtain ⟨Ao18, co18, eo18⟩ := Kd.R_slice HO_6.out
  (first | subst eo18 | (injection eo18 with f1_ f2_ f3_; have f4_ := f1_.symm; have f5_ := f3_.symm; clear f1_ f2_ f3_; subst f4_; subst f5_))
  have p373 : 0 ≤ (x9_1 : Int) := bo
  have q373 : x9_1 < (t369.length : Int) := bo
  obtain ⟨ad373, e373, hx373_0⟩ := Kd.at_int (Kd.R_reads' HO_6.out).2.2 x9_1 p373 q373
  cases e373
  replace p373 := eq_true p373
  replace q373 := eq_true q373
  refine start_ (n := 12) (S := fun w' => w'.cell? (ad372.add (x9_1).toNat) = some (.int .i64 (rd t366 x9_1)) ∧ w'.cell? (ad373.add (x9_1).toNat) = some (.int .i64 (rd t369 x9_1))) (ds := []) #[false,false,false,false,false,false,false,false,false,false,false,false] (by kernel_rfl) rfl rfl ⟨hx372_0, hx373_0⟩ (fun hHeld => ?_); refine with_tabW apogeeref01_plus.tab7 apogeeref01_plus.bits7 (fun HT_ HW_ => ?_)
  generalize wr.drew = w16 at HO_5 HO_6 HO_7 BK363 BK364 BK365 HB hx372_0 hx373_0 hHeld ⊢
  refine bU (i := 0) (N := some 19) ?_
  refine bU (i := 1) (N := some 20) ?_
  refine bU (i := 2) (N := some 21) ?_
  refine bU (i := 4) (N := some 23) ?_
  refine bU (i := 5) (N := some 24) ?_
  refine bU (i := 6) (N := some 25) ?_
  refine bU (i := 9) (N := some 28) ?_
  refine bW (i := 3) (N := some 22) hHeld ?_
  refine bW (i := 7) (N := some 26) hHeld ?_
  refine bU (i := 8) (N := some 27) ?_
  refine bU (i := 10) (N := some 29) ?_
  refine bU (i := 11) (N := some 10) ?_
  refine done_ (done_of HT_.out (by kernel_rfl)) ?_
  try go_wp2_with (first | ((with_reducible refine gate_builtin (b := .append) (xs := #[.tmp 30, .tmp 33]) rfl ?_); at_builtin; refine Kd.R_append (Kd.int .i64) (w0 := w) w.heap.size rfl (.tmp 30) (.tmp 33) 122 3 (.int .i64 0) 8 rfl Try.underlying122 info3 rfl (by decide) (by omega) u7 x7_1 (Int.tmod (wrap64 ((wrap64 ((rd t366 x9_1) + (rd t369 x9_1))) + x8_1)) 2) [.int .i64 (Int.tmod (wrap64 ((wrap64 ((rd t366 x9_1) + (rd t369 x9_1))) + x8_1)) 2)] (fun k_ => some k_ ≠ (.slice (some ad372) t366.length co17 : Value).ownBlock ∧ some k_ ≠ (.slice (some ad373) t369.length co18 : Value).ownBlock) (fun _ => False) rfl rfl ?aP (fun _ hk => hk.elim) ?aF ?aO ?aB ?aS ?aL ?_; (case aP => exact rfl); (case aB => exact bX); (case aF => exact (fun k_ hk => ⟨Kd.fresh' (Kd.R_lt (bRr HO_5)) k_ hk, Kd.fresh' (Kd.R_lt (bRr HO_6)) k_ hk⟩)); (case aO => exact (bRr HO_7)); (case aS => exact bY); (case aL => have := LMc15.out; omega); intro v375 w19 ho hb hg hat; rw [← Ny374.out] at ho; have HO376 := bA (ho); replace HO_5 := bA (Kd.R_after (ok := (fun k_ => some k_ ≠ (.slice (some ad373) t369.length co18 : Value).ownBlock)) (bRr HO_5) hg hat); replace HO_6 := bA (Kd.R_after (ok := (fun k_ => some k_ ≠ (.slice (some ad372) t366.length co17 : Value).ownBlock)) (bRr HO_6) hg hat); replace BK363 := bA (blk_grown (g := gb363) (o := .cells #[.int .i64 a0_0, .int .u64 a0_1] 90 (0, 0)) (bP BK363) hg (Kd.R_ne HO_7.out BK363.out (by decide))); replace BK364 := bA (blk_grown (g := gb364) (o := .cells #[.int .i64 a1_0, .int .u64 a1_1] 90 (0, 0)) (bP BK364) hg (Kd.R_ne HO_7.out BK364.out (by decide))); replace BK365 := bA (blk_grown (g := gb365) (o := .cells #[.int .i64 0, .int .u64 0] 90 (0, 0)) (bP BK365) hg (Kd.R_ne HO_7.out BK365.out (by decide))); replace HB := bA (hb); clear HO_7; clear ho hb hg hat))
  go_roundg k1
  case measure => have := HK1.out; omega
  case rel => exact ⟨(y374), (wrap64 (Int.tdiv (wrap64 ((wrap64 ((rd t366 x9_1) + (rd t369 x9_1))) + x8_1)) 2)), (wrap64 (x9_1 + 1)), bs, bs, H', ⟨by have := HK1.out; omega⟩, ⟨bRr HO_5⟩, ⟨bRr HO_6⟩, ⟨bRr HO376⟩, ⟨by (with_reducible repeat (first | refine blk_drewN ?_ _ | refine blk_drew ?_ | refine blk_alloc ?_ _)); exact BK363.out⟩, ⟨by (with_reducible repeat (first | refine blk_drewN ?_ _ | refine blk_drew ?_ | refine blk_alloc ?_ _)); exact BK364.out⟩, ⟨by (with_reducible repeat (first | refine blk_drewN ?_ _ | refine blk_drew ?_ | refine blk_alloc ?_ _)); exact BK365.out⟩, ⟨bX⟩⟩
/-! ### apogeeref01_Flip: function 111 -/
def apogeeref01_Flip.f (k : Nat) (a0_0 : Int) (a0_1 : Int) : Option (Int × Int) := (apogeeref01_plus.f k (Go.bits .xor .i64 (-1) a0_0) (Go.bits .xor .u64 (-1) a0_1) 0 1).bind fun bt381 => (some (bt381.1, bt381.2))
theorem apogeeref01_Flip.mono : ∀ a0 a1 k, LeO (apogeeref01_Flip.f k a0 a1) (apogeeref01_Flip.f (k + 1) a0 a1) := by
 intro a0 a1 k
 unfold apogeeref01_Flip.f
 repeat' first
   | (with_reducible exact apogeeref01_plus.mono _ _ _ _ _)
   | (with_reducible exact LeO.refl _)
   | (with_reducible exact LeO.none _)
   | (with_reducible refine LeO.ite ?_ ?_)
   | (with_reducible refine LeO.bind ?_ (fun _ => ?_))
   | exact apogeeref01_plus.mono _ _ _ _ _
   | exact LeO.none _
   | refine LeO.ite ?_ ?_
   | refine LeO.bind ?_ (fun _ => ?_)
set_option maxHeartbeats 8000000 in
set_option maxRecDepth 100000 in
theorem apogeeref01_Flip.calls (k : Nat) (a0_0 : Int) (a0_1 : Int) (r1 : Int) (r2 : Int) (w : World) (h : apogeeref01_Flip.f k a0_0 a0_1 = some (r1, r2)) :
  Calls Try.prog 111 #[.agg #[.int .i64 a0_0, .int .u64 a0_1]] w fun e w' => e = .returned (.agg #[.int .i64 r1, .int .u64 r2]) ∧ Below w.heap.size w w' := by
 have hu90 := Try.underlying90
 have HB := bA (Below.refl w.heap.size w)
 have H : ((apogeeref01_plus.f k (Go.bits .xor .i64 (-1) a0_0) (Go.bits .xor .u64 (-1) a0_1) 0 1).bind fun bt381 => (some (bt381.1, bt381.2))) = some (r1, r2) := h
 clear h
 replace H := Option.bind_eq_some_iff.mp H
 obtain ⟨⟨t381, t382⟩, A20, H⟩ := H
 replace H : (some (t381, t382)) = some (r1, r2) := H
 have A2 := bA A20
 clear A20
 simp only [Option.some.injEq, Prod.mk.injEq] at H
 obtain ⟨rfl, rfl⟩ := H
 go_enter Try.func111, Try.ntmps111
 go_wp2_with (first | ((with_reducible refine gate_dst (N := 1) rfl ?_); refine bE (N := 1) (cs := #[.int .i64 a0_0, .int .u64 a0_1]) (t := 90) ?_; intro gb379 hg w3 hbox hb; have BK379 := bA (hbox); have GW379 := bA (bZ hg); have GE379 := bA (bZ hg); replace HB := bA (bS hb); clear hb hbox hg) | ((with_reducible refine gate_dst (N := 2) rfl ?_); refine bE (N := 2) (cs := #[.int .i64 0, .int .u64 0]) (t := 90) ?_; intro gb380 hg w4 hbox hb; have BK380 := bA (hbox); have GW380 := bA (bZ hg); have GE380 := bA (bZ hg); have NB379_380 := bA (bL BK379 hg); have NB380_379 := bA (bG BK379 hg); replace BK379 := bA (bB BK379 hb); replace HB := bA (bS hb); clear hb hbox hg; have hnb5 := NB379_380.out; have hnc5 := NB380_379.out; obtain ⟨hcz6_0, hcz6_1, hfz6_0, hfz6_1⟩ := bc2 BK379) | ((first | ((with_reducible refine gate_callee (f := 109) rfl ?_); refine bC (some 11) Try.func109 #[.agg #[.int .i64 (Go.bits .xor .i64 (-1) a0_0), .int .u64 (Go.bits .xor .u64 (-1) a0_1)], .agg #[.int .i64 0, .int .u64 1]] ?_) | go_at_call 109); (with_reducible refine (apogeeref01_plus.calls k (Go.bits .xor .i64 (-1) a0_0) (Go.bits .xor .u64 (-1) a0_1) 0 1 t381 t382 _ A2.out).mono ?_); rintro e w7 ⟨rfl, hb⟩; (first | refine ⟨_, rfl, ?_⟩ | skip); replace BK379 := bA (bB BK379 hb); replace BK380 := bA (bB BK380 hb); replace HB := bA (bS hb); (try clear hb); obtain ⟨hcz8_0, hcz8_1, hfz8_0, hfz8_1⟩ := bc2 BK380))
 refine bodyPost_ret (results_cell_row rfl _ _ gb380 90 #[.int .i64 t381, .int .u64 t382] (0, 0) _ rfl (by (with_reducible repeat (first | refine blk_drewN ?_ _ | refine blk_drew ?_ | refine blk_alloc ?_ _)); refine blk_put (cs := #[.int .i64 t381, .int .u64 0]) ?_ 1 _ rfl; (with_reducible repeat (first | refine blk_drewN ?_ _ | refine blk_drew ?_ | refine blk_alloc ?_ _)); refine blk_put (cs := #[.int .i64 0, .int .u64 0]) ?_ 0 _ rfl; (with_reducible repeat (first | refine blk_drewN ?_ _ | refine blk_drew ?_ | refine blk_alloc ?_ _)); exact BK380.out) Try.underlying90 rfl (by kernel_rfl)) rfl ?_
 exact bF
/-! ### apogeeref01_Mul: function 81 -/
def apogeeref01_Mul.l0 : Nat → Int → Int → Int → Int → Int → Int → Int → Option (Int × Int)
 | 0, _, _, _, _, _, _, _ => none
 | k + 1, x1, x7, x8, x387000, x387001, x388000, x388001 => if x8 < 64 then (if 0 ≤ x8 then (if (Go.bits .and .u64 (shr .u64 x7 x8) 1) = 1 then ((apogeeref01_plus.f k x388000 x388001 x387000 x387001).bind fun bt388 => ((apogeeref01_plus.f k x387000 x387001 x387000 x387001).bind fun bt390 => (apogeeref01_Mul.l0 k x1 x7 (wrap64 (x8 + 1)) bt390.1 bt390.2 bt388.1 bt388.2))) else ((apogeeref01_plus.f k x387000 x387001 x387000 x387001).bind fun bt392 => (apogeeref01_Mul.l0 k x1 x7 (wrap64 (x8 + 1)) bt392.1 bt392.2 x388000 x388001))) else (none)) else (if x1 < 0 then ((apogeeref01_Flip.f k x387000 x387001).bind fun bt394 => ((apogeeref01_plus.f k x388000 x388001 bt394.1 bt394.2).bind fun bt396 => (some (bt396.1, bt396.2)))) else (some (x388000, x388001)))
def apogeeref01_Mul.f (k : Nat) (a0 : Int) (a1 : Int) : Option (Int × Int) := (apogeeref01_Of.f a0).bind fun bt384 => (apogeeref01_Mul.l0 k a1 (IntKind.u64.wrap (a1)) 0 bt384.1 bt384.2 0 0)
theorem apogeeref01_Mul.mono_l : ∀ k, (∀ y0 y1 y2 y3 y4 y5 y6, LeO (apogeeref01_Mul.l0 k y0 y1 y2 y3 y4 y5 y6) (apogeeref01_Mul.l0 (k + 1) y0 y1 y2 y3 y4 y5 y6))
 | 0 => fun _ _ _ _ _ _ _ r h => by simp [apogeeref01_Mul.l0] at h
 | k + 1 => by
  have ih0 := apogeeref01_Mul.mono_l k
  ·intro y0 y1 y2 y3 y4 y5 y6
   unfold apogeeref01_Mul.l0
   repeat' first
   | (with_reducible exact ih0 _ _ _ _ _ _ _)
   | (with_reducible exact apogeeref01_Flip.mono _ _ _)
   | (with_reducible exact apogeeref01_plus.mono _ _ _ _ _)
   | (with_reducible exact LeO.refl _)
   | (with_reducible exact LeO.none _)
   | (with_reducible refine LeO.ite ?_ ?_)
   | (with_reducible refine LeO.bind ?_ (fun _ => ?_))
   | exact ih0 _ _ _ _ _ _ _
   | exact apogeeref01_Flip.mono _ _ _
   | exact apogeeref01_plus.mono _ _ _ _ _
   | exact LeO.none _
   | refine LeO.ite ?_ ?_
   | refine LeO.bind ?_ (fun _ => ?_)
theorem apogeeref01_Mul.mono : ∀ a0 a1 k, LeO (apogeeref01_Mul.f k a0 a1) (apogeeref01_Mul.f (k + 1) a0 a1) := by
 intro a0 a1 k
 have ih0 := apogeeref01_Mul.mono_l k
 unfold apogeeref01_Mul.f
 repeat' first
   | (with_reducible exact ih0 _ _ _ _ _ _ _)
   | (with_reducible exact apogeeref01_Flip.mono _ _ _)
   | (with_reducible exact apogeeref01_plus.mono _ _ _ _ _)
   | (with_reducible exact LeO.refl _)
   | (with_reducible exact LeO.none _)
   | (with_reducible refine LeO.ite ?_ ?_)
   | (with_reducible refine LeO.bind ?_ (fun _ => ?_))
   | exact ih0 _ _ _ _ _ _ _
   | exact apogeeref01_Flip.mono _ _ _
   | exact apogeeref01_plus.mono _ _ _ _ _
   | exact LeO.none _
   | refine LeO.ite ?_ ?_
   | refine LeO.bind ?_ (fun _ => ?_)
set_option maxHeartbeats 8000000 in
set_option maxRecDepth 100000 in
theorem apogeeref01_Mul.calls (k : Nat) (a0 : Int) (a1 : Int) (r1 : Int) (r2 : Int) (w : World) (h : apogeeref01_Mul.f k a0 a1 = some (r1, r2)) :
  Calls Try.prog 81 #[.int .i64 a0, .int .i64 a1] w fun e w' => e = .returned (.agg #[.int .i64 r1, .int .u64 r2]) ∧ Below w.heap.size w w' := by
 have hu90 := Try.underlying90
 have HB := bA (Below.refl w.heap.size w)
 have H : ((apogeeref01_Of.f a0).bind fun bt384 => (apogeeref01_Mul.l0 k a1 (IntKind.u64.wrap (a1)) 0 bt384.1 bt384.2 0 0)) = some (r1, r2) := h
 clear h
 replace H := Option.bind_eq_some_iff.mp H
 obtain ⟨⟨t384, t385⟩, A30, H⟩ := H
 replace H : (apogeeref01_Mul.l0 k a1 (IntKind.u64.wrap (a1)) 0 t384 t385 0 0) = some (r1, r2) := H
 have A3 := bA A30
 clear A30
 have H' := bA H
 clear H
 go_enter Try.func81, Try.ntmps81
 go_wp2_with (first | ((with_reducible refine gate_dst (N := 4) rfl ?_); refine bE (N := 4) (cs := #[.int .i64 0, .int .u64 0]) (t := 90) ?_; intro gb383 hg w4 hbox hb; have BK383 := bA (hbox); have GW383 := bA (bZ hg); have GE383 := bA (bZ hg); replace HB := bA (bS hb); clear hb hbox hg) | ((first | ((with_reducible refine gate_callee (f := 110) rfl ?_); refine bC (some 10) Try.func110 #[.int .i64 a0] ?_) | go_at_call 110); (with_reducible refine (apogeeref01_Of.calls a0 t384 t385 _ A3.out).mono ?_); rintro e w5 ⟨rfl, hb⟩; (first | refine ⟨_, rfl, ?_⟩ | skip); replace BK383 := bA (bB BK383 hb); replace HB := bA (bS hb); (try clear hb)) | ((with_reducible refine gate_dst (N := 5) rfl ?_); refine bE (N := 5) (cs := #[.int .i64 0, .int .u64 0]) (t := 90) ?_; intro gb386 hg w6 hbox hb; have BK386 := bA (hbox); have GW386 := bA (bZ hg); have GE386 := bA (bZ hg); have NB383_386 := bA (bL BK383 hg); have NB386_383 := bA (bG BK383 hg); replace BK383 := bA (bB BK383 hb); replace HB := bA (bS hb); clear hb hbox hg; have hnb7 := NB386_383.out; have hnc7 := NB383_386.out; obtain ⟨hcz8_0, hcz8_1, hfz8_0, hfz8_1⟩ := bc2 BK386) | ((with_reducible refine gate_dst (N := 6) rfl ?_); refine bE (N := 6) (cs := #[.int .i64 0, .int .u64 0]) (t := 90) ?_; intro gb387 hg w9 hbox hb; have BK387 := bA (hbox); have GW387 := bA (bZ hg); have GE387 := bA (bZ hg); have NB383_387 := bA ((by rw [hg]; exact Nat.ne_of_lt (blk_lt (g := gb383) (o := .cells #[.int .i64 0, .int .u64 0] 90 (0, 0)) (by (repeat ((with_reducible repeat (first | refine blk_drewN ?_ _ | refine blk_drew ?_ | refine blk_alloc ?_ _)); refine blk_far ?_ NB383_386.out _)); (with_reducible repeat (first | refine blk_drewN ?_ _ | refine blk_drew ?_ | refine blk_alloc ?_ _)); exact BK383.out)) : gb383 ≠ gb387)); have NB387_383 := bA ((by rw [hg]; exact Nat.ne_of_gt (blk_lt (g := gb383) (o := .cells #[.int .i64 0, .int .u64 0] 90 (0, 0)) (by (repeat ((with_reducible repeat (first | refine blk_drewN ?_ _ | refine blk_drew ?_ | refine blk_alloc ?_ _)); refine blk_far ?_ NB383_386.out _)); (with_reducible repeat (first | refine blk_drewN ?_ _ | refine blk_drew ?_ | refine blk_alloc ?_ _)); exact BK383.out)) : gb387 ≠ gb383)); have NB386_387 := bA ((by rw [hg]; exact Nat.ne_of_lt (blk_lt (g := gb386) (o := .cells #[.int .i64 t384, .int .u64 t385] 90 (0, 0)) (by (with_reducible repeat (first | refine blk_drewN ?_ _ | refine blk_drew ?_ | refine blk_alloc ?_ _)); refine blk_put (cs := #[.int .i64 t384, .int .u64 0]) ?_ 1 _ rfl; (with_reducible repeat (first | refine blk_drewN ?_ _ | refine blk_drew ?_ | refine blk_alloc ?_ _)); refine blk_put (cs := #[.int .i64 0, .int .u64 0]) ?_ 0 _ rfl; (with_reducible repeat (first | refine blk_drewN ?_ _ | refine blk_drew ?_ | refine blk_alloc ?_ _)); exact BK386.out)) : gb386 ≠ gb387)); have NB387_386 := bA ((by rw [hg]; exact Nat.ne_of_gt (blk_lt (g := gb386) (o := .cells #[.int .i64 t384, .int .u64 t385] 90 (0, 0)) (by (with_reducible repeat (first | refine blk_drewN ?_ _ | refine blk_drew ?_ | refine blk_alloc ?_ _)); refine blk_put (cs := #[.int .i64 t384, .int .u64 0]) ?_ 1 _ rfl; (with_reducible repeat (first | refine blk_drewN ?_ _ | refine blk_drew ?_ | refine blk_alloc ?_ _)); refine blk_put (cs := #[.int .i64 0, .int .u64 0]) ?_ 0 _ rfl; (with_reducible repeat (first | refine blk_drewN ?_ _ | refine blk_drew ?_ | refine blk_alloc ?_ _)); exact BK386.out)) : gb387 ≠ gb386)); replace BK383 := bA (blk_below (g := gb383) (o := .cells #[.int .i64 0, .int .u64 0] 90 (0, 0)) (by (repeat ((with_reducible repeat (first | refine blk_drewN ?_ _ | refine blk_drew ?_ | refine blk_alloc ?_ _)); refine blk_far ?_ NB383_386.out _)); (with_reducible repeat (first | refine blk_drewN ?_ _ | refine blk_drew ?_ | refine blk_alloc ?_ _)); exact BK383.out) hb); replace BK386 := bA (blk_below (g := gb386) (o := .cells #[.int .i64 t384, .int .u64 t385] 90 (0, 0)) (by (with_reducible repeat (first | refine blk_drewN ?_ _ | refine blk_drew ?_ | refine blk_alloc ?_ _)); refine blk_put (cs := #[.int .i64 t384, .int .u64 0]) ?_ 1 _ rfl; (with_reducible repeat (first | refine blk_drewN ?_ _ | refine blk_drew ?_ | refine blk_alloc ?_ _)); refine blk_put (cs := #[.int .i64 0, .int .u64 0]) ?_ 0 _ rfl; (with_reducible repeat (first | refine blk_drewN ?_ _ | refine blk_drew ?_ | refine blk_alloc ?_ _)); exact BK386.out) hb); replace HB := bA (bS hb); clear hb hbox hg; have hnb10 := NB387_383.out; have hnc10 := NB383_387.out; have hnb11 := NB387_386.out; have hnc11 := NB386_387.out; obtain ⟨hcz12_0, hcz12_1, hfz12_0, hfz12_1⟩ := bc2 BK387))
 go_loopg [8] k (fun kq v8 w' => ∃ (x8_1 : Int) (x387000_1 : Int) (x387001_1 : Int) (x388000_1 : Int) (x388001_1 : Int), v8 = .int .i64 x8_1 ∧ Aside0 (apogeeref01_Mul.l0 kq a1 (IntKind.u64.wrap (a1)) x8_1 x387000_1 x387001_1 x388000_1 x388001_1 = some (r1, r2)) ∧ Aside0 (kq ≤ k) ∧ Aside0 (w'.heap[gb383]? = some (.cells #[.int .i64 0, .int .u64 0] 90 (0, 0))) ∧ Aside0 (w'.heap[gb386]? = some (.cells #[.int .i64 x387000_1, .int .u64 x387001_1] 90 (0, 0))) ∧ Aside0 (w'.heap[gb387]? = some (.cells #[.int .i64 x388000_1, .int .u64 x388001_1] 90 (0, 0))) ∧ Aside0 (Below w.heap.size w w'))
 case atStart => exact ⟨(0), (t384), (t385), (0), (0), bs, H', ⟨Nat.le_refl _⟩, ⟨by (repeat ((with_reducible repeat (first | refine blk_drewN ?_ _ | refine blk_drew ?_ | refine blk_alloc ?_ _)); refine blk_far ?_ NB383_387.out _)); (with_reducible repeat (first | refine blk_drewN ?_ _ | refine blk_drew ?_ | refine blk_alloc ?_ _)); exact BK383.out⟩, ⟨by (repeat ((with_reducible repeat (first | refine blk_drewN ?_ _ | refine blk_drew ?_ | refine blk_alloc ?_ _)); refine blk_far ?_ NB386_387.out _)); (with_reducible repeat (first | refine blk_drewN ?_ _ | refine blk_drew ?_ | refine blk_alloc ?_ _)); exact BK386.out⟩, ⟨by (with_reducible repeat (first | refine blk_drewN ?_ _ | refine blk_drew ?_ | refine blk_alloc ?_ _)); refine blk_put (cs := #[.int .i64 0, .int .u64 0]) ?_ 1 _ rfl; (with_reducible repeat (first | refine blk_drewN ?_ _ | refine blk_drew ?_ | refine blk_alloc ?_ _)); refine blk_put (cs := #[.int .i64 0, .int .u64 0]) ?_ 0 _ rfl; (with_reducible repeat (first | refine blk_drewN ?_ _ | refine blk_drew ?_ | refine blk_alloc ?_ _)); exact BK387.out⟩, ⟨bX⟩⟩
 clear H'
 try clear c1
 try clear p2
 try clear c7
 try clear c8
 try clear c10
 try clear c11
 try clear hcz12_0
 try clear hcz12_1
 try clear hcz8_0
 try clear hcz8_1
 try clear hfz12_0
 try clear hfz12_1
 try clear hfz8_0
 try clear hfz8_1
 obtain ⟨x8_1, x387000_1, x387001_1, x388000_1, x388001_1, rfl, HA, HK1, BK383, BK386, BK387, HB⟩ := hrel
 cases gk with
 | zero => exact absurd HA.out (by simp [apogeeref01_Mul.l0])
 | succ k1 =>
  have H := HA.out
  clear HA
  simp only [apogeeref01_Mul.l0] at H
  by_cases c13 : x8_1 < 64
  ·rw [if_pos c13] at H
   have c13b0 : decide (x8_1 < 64) = true := decide_eq_true c13
   clear c13
   by_cases c14 : 0 ≤ x8_1
   rw [if_pos c14] at H
   have c14b0 := eq_true c14
   have c14b1 : decide (0 ≤ x8_1) = true := decide_eq_true c14
   clear c14
   obtain ⟨ji15, hji15⟩ : ∃ j_ : Int, (shr .u64 (IntKind.u64.wrap (a1)) x8_1) = j_ := ⟨_, rfl⟩
   replace H : (if (Go.bits .and .u64 (ji15) 1) = 1 then ((apogeeref01_plus.f k1 x388000_1 x388001_1 x387000_1 x387001_1).bind fun bt388 => ((apogeeref01_plus.f k1 x387000_1 x387001_1 x387000_1 x387001_1).bind fun bt390 => (apogeeref01_Mul.l0 k1 a1 (IntKind.u64.wrap (a1)) (wrap64 (x8_1 + 1)) bt390.1 bt390.2 bt388.1 bt388.2))) else ((apogeeref01_plus.f k1 x387000_1 x387001_1 x387000_1 x387001_1).bind fun bt392 => (apogeeref01_Mul.l0 k1 a1 (IntKind.u64.wrap (a1)) (wrap64 (x8_1 + 1)) bt392.1 bt392.2 x388000_1 x388001_1))) = some (r1, r2) := by first | (rw [hji15] at H; exact H) | (simp only [hji15] at H ⊢; exact H)
   have hji15_ : ((IntKind.u64.wrap (a1)) / 2 ^ min x8_1.toNat 64) = ji15 := hji15
   have hji15z : x8_1 ≤ 64 → ((IntKind.u64.wrap (a1)) / 2 ^ x8_1.toNat) = ji15 := shr_small hji15
   by_cases c16 : (Go.bits .and .u64 (ji15) 1) = 1
   rw [if_pos c16] at H
   have c16b0 : ((Go.bits .and .u64 (ji15) 1) == 1) = true := beq_iff_eq.mpr c16
   have c16b1 : ((Go.bits .and .u64 (ji15) 1) != 1) = false := bne_eq_false_iff_eq.mpr c16
   clear c16
   replace H := Option.bind_eq_some_iff.mp H
   obtain ⟨⟨t388, t389⟩, A170, H⟩ := H
   replace H : ((apogeeref01_plus.f k1 x387000_1 x387001_1 x387000_1 x387001_1).bind fun bt390 => (apogeeref01_Mul.l0 k1 a1 (IntKind.u64.wrap (a1)) (wrap64 (x8_1 + 1)) bt390.1 bt390.2 t388 t389)) = some (r1, r2) := H
   have A17 := bA A170
   clear A170
   replace H := Option.bind_eq_some_iff.mp H
   obtain ⟨⟨t390, t391⟩, A180, H⟩ := H
   replace H : (apogeeref01_Mul.l0 k1 a1 (IntKind.u64.wrap (a1)) (wrap64 (x8_1 + 1)) t390 t391 t388 t389) = some (r1, r2) := H
   have A18 := bA A180
   clear A180
   have H' := bA H
   clear H
   have hnb19 := NB387_383.out
   have hnc19 := NB383_387.out
   have hnb20 := NB387_386.out
   have hnc20 := NB386_387.out
   obtain ⟨hcz21_0, hcz21_1, hfz21_0, hfz21_1⟩ := bc2 BK387
   have hnb22 := NB386_383.out
   have hnc22 := NB383_386.out
   obtain ⟨hcz23_0, hcz23_1, hfz23_0, hfz23_1⟩ := bc2 BK386
   rotate_left
   rw [if_neg c16] at H
   have c16b0 : ((Go.bits .and .u64 (ji15) 1) == 1) = false := beq_eq_false_iff_ne.mpr c16
   have c16b1 : ((Go.bits .and .u64 (ji15) 1) != 1) = true := bne_iff_ne.mpr c16
   replace H := Option.bind_eq_some_iff.mp H
   obtain ⟨⟨t392, t393⟩, A290, H⟩ := H
   replace H : (apogeeref01_Mul.l0 k1 a1 (IntKind.u64.wrap (a1)) (wrap64 (x8_1 + 1)) t392 t393 x388000_1 x388001_1) = some (r1, r2) := H
   have A29 := bA A290
   clear A290
   have H' := bA H
   clear H
   have hnb30 := NB386_383.out
   have hnc30 := NB383_386.out
   have hnb31 := NB386_387.out
   have hnc31 := NB387_386.out
   obtain ⟨hcz32_0, hcz32_1, hfz32_0, hfz32_1⟩ := bc2 BK386
   rotate_left
   rw [if_neg c14] at H
   exact absurd H (by simp)
   all_goals go_wp2_with (first | ((first | ((with_reducible refine gate_callee (f := 109) rfl ?_); refine bC (some 25) Try.func109 #[.agg #[.int .i64 x388000_1, .int .u64 x388001_1], .agg #[.int .i64 x387000_1, .int .u64 x387001_1]] ?_) | go_at_call 109); (with_reducible refine (apogeeref01_plus.calls k1 x388000_1 x388001_1 x387000_1 x387001_1 t388 t389 _ A17.out).mono ?_); rintro e wz0 ⟨rfl, hb⟩; (first | refine ⟨_, rfl, ?_⟩ | skip); replace BK383 := bA (bB BK383 hb); replace BK386 := bA (bB BK386 hb); replace BK387 := bA (bB BK387 hb); replace HB := bA (bS hb); (try clear hb); obtain ⟨hz1, hz2, hz3, hz4⟩ := bc2 BK387; obtain ⟨hz5, hz6, hz7, hz8⟩ := bc2 BK386) | ((first | ((with_reducible refine gate_callee (f := 109) rfl ?_); refine bC (some 28) Try.func109 #[.agg #[.int .i64 x387000_1, .int .u64 x387001_1], .agg #[.int .i64 x387000_1, .int .u64 x387001_1]] ?_) | go_at_call 109); (with_reducible refine (apogeeref01_plus.calls k1 x387000_1 x387001_1 x387000_1 x387001_1 t390 t391 _ A18.out).mono ?_); rintro e wz1 ⟨rfl, hb⟩; (first | refine ⟨_, rfl, ?_⟩ | skip); replace BK383 := bA (blk_below (g := gb383) (o := .cells #[.int .i64 0, .int .u64 0] 90 (0, 0)) (by (repeat ((with_reducible repeat (first | refine blk_drewN ?_ _ | refine blk_drew ?_ | refine blk_alloc ?_ _)); refine blk_far ?_ NB383_387.out _)); (with_reducible repeat (first | refine blk_drewN ?_ _ | refine blk_drew ?_ | refine blk_alloc ?_ _)); exact BK383.out) hb); replace BK386 := bA (blk_below (g := gb386) (o := .cells #[.int .i64 x387000_1, .int .u64 x387001_1] 90 (0, 0)) (by (repeat ((with_reducible repeat (first | refine blk_drewN ?_ _ | refine blk_drew ?_ | refine blk_alloc ?_ _)); refine blk_far ?_ NB386_387.out _)); (with_reducible repeat (first | refine blk_drewN ?_ _ | refine blk_drew ?_ | refine blk_alloc ?_ _)); exact BK386.out) hb); replace BK387 := bA (blk_below (g := gb387) (o := .cells #[.int .i64 t388, .int .u64 t389] 90 (0, 0)) (by (with_reducible repeat (first | refine blk_drewN ?_ _ | refine blk_drew ?_ | refine blk_alloc ?_ _)); refine blk_put (cs := #[.int .i64 t388, .int .u64 x388001_1]) ?_ 1 _ rfl; (with_reducible repeat (first | refine blk_drewN ?_ _ | refine blk_drew ?_ | refine blk_alloc ?_ _)); refine blk_put (cs := #[.int .i64 x388000_1, .int .u64 x388001_1]) ?_ 0 _ rfl; (with_reducible repeat (first | refine blk_drewN ?_ _ | refine blk_drew ?_ | refine blk_alloc ?_ _)); exact BK387.out) hb); replace HB := bA (bS hb); (try clear hb); obtain ⟨hz9, hz10, hz7, hz8⟩ := bc2 BK386) | ((first | ((with_reducible refine gate_callee (f := 109) rfl ?_); refine bC (some 28) Try.func109 #[.agg #[.int .i64 x387000_1, .int .u64 x387001_1], .agg #[.int .i64 x387000_1, .int .u64 x387001_1]] ?_) | go_at_call 109); (with_reducible refine (apogeeref01_plus.calls k1 x387000_1 x387001_1 x387000_1 x387001_1 t392 t393 _ A29.out).mono ?_); rintro e wz0 ⟨rfl, hb⟩; (first | refine ⟨_, rfl, ?_⟩ | skip); replace BK383 := bA (bB BK383 hb); replace BK386 := bA (bB BK386 hb); replace BK387 := bA (bB BK387 hb); replace HB := bA (bS hb); (try clear hb); obtain ⟨hz5, hz6, hz7, hz8⟩ := bc2 BK386))
   ·go_roundg k1
    case measure => have := HK1.out; omega
    case rel => exact ⟨(wrap64 (x8_1 + 1)), (t390), (t391), (t388), (t389), bs, H', ⟨by have := HK1.out; omega⟩, ⟨by (repeat ((with_reducible repeat (first | refine blk_drewN ?_ _ | refine blk_drew ?_ | refine blk_alloc ?_ _)); refine blk_far ?_ NB383_386.out _)); (with_reducible repeat (first | refine blk_drewN ?_ _ | refine blk_drew ?_ | refine blk_alloc ?_ _)); exact BK383.out⟩, ⟨by (with_reducible repeat (first | refine blk_drewN ?_ _ | refine blk_drew ?_ | refine blk_alloc ?_ _)); refine blk_put (cs := #[.int .i64 t390, .int .u64 x387001_1]) ?_ 1 _ rfl; (with_reducible repeat (first | refine blk_drewN ?_ _ | refine blk_drew ?_ | refine blk_alloc ?_ _)); refine blk_put (cs := #[.int .i64 x387000_1, .int .u64 x387001_1]) ?_ 0 _ rfl; (with_reducible repeat (first | refine blk_drewN ?_ _ | refine blk_drew ?_ | refine blk_alloc ?_ _)); exact BK386.out⟩, ⟨by (repeat ((with_reducible repeat (first | refine blk_drewN ?_ _ | refine blk_drew ?_ | refine blk_alloc ?_ _)); refine blk_far ?_ NB387_386.out _)); (with_reducible repeat (first | refine blk_drewN ?_ _ | refine blk_drew ?_ | refine blk_alloc ?_ _)); exact BK387.out⟩, ⟨bX⟩⟩
   go_roundg k1
   case measure => have := HK1.out; omega
   case rel => exact ⟨(wrap64 (x8_1 + 1)), (t392), (t393), (x388000_1), (x388001_1), bs, H', ⟨by have := HK1.out; omega⟩, ⟨by (repeat ((with_reducible repeat (first | refine blk_drewN ?_ _ | refine blk_drew ?_ | refine blk_alloc ?_ _)); refine blk_far ?_ NB383_386.out _)); (with_reducible repeat (first | refine blk_drewN ?_ _ | refine blk_drew ?_ | refine blk_alloc ?_ _)); exact BK383.out⟩, ⟨by (with_reducible repeat (first | refine blk_drewN ?_ _ | refine blk_drew ?_ | refine blk_alloc ?_ _)); refine blk_put (cs := #[.int .i64 t392, .int .u64 x387001_1]) ?_ 1 _ rfl; (with_reducible repeat (first | refine blk_drewN ?_ _ | refine blk_drew ?_ | refine blk_alloc ?_ _)); refine blk_put (cs := #[.int .i64 x387000_1, .int .u64 x387001_1]) ?_ 0 _ rfl; (with_reducible repeat (first | refine blk_drewN ?_ _ | refine blk_drew ?_ | refine blk_alloc ?_ _)); exact BK386.out⟩, ⟨by (repeat ((with_reducible repeat (first | refine blk_drewN ?_ _ | refine blk_drew ?_ | refine blk_alloc ?_ _)); refine blk_far ?_ NB387_386.out _)); (with_reducible repeat (first | refine blk_drewN ?_ _ | refine blk_drew ?_ | refine blk_alloc ?_ _)); exact BK387.out⟩, ⟨bX⟩⟩
  rw [if_neg c13] at H
  have c13b0 : decide (x8_1 < 64) = false := decide_eq_false c13
  clear c13
  by_cases c35 : a1 < 0
  rotate_left
  ·rw [if_neg c35] at H
   have c35b0 : decide (a1 < 0) = false := decide_eq_false c35
   clear c35
   simp only [Option.some.injEq, Prod.mk.injEq] at H
   obtain ⟨rfl, rfl⟩ := H
   have hnb48 := NB387_383.out
   have hnc48 := NB383_387.out
   have hnb49 := NB387_386.out
   have hnc49 := NB386_387.out
   obtain ⟨hcz50_0, hcz50_1, hfz50_0, hfz50_1⟩ := bc2 BK387
   have hnb51 := NB383_386.out
   have hnc51 := NB386_383.out
   obtain ⟨hcz52_0, hcz52_1, hfz52_0, hfz52_1⟩ := bc2 BK383
   go_wp2
   refine bodyPost_ret (results_cell_row rfl _ _ gb383 90 #[.int .i64 x388000_1, .int .u64 x388001_1] (0, 0) _ rfl (by (with_reducible repeat (first | refine blk_drewN ?_ _ | refine blk_drew ?_ | refine blk_alloc ?_ _)); refine blk_put (cs := #[.int .i64 x388000_1, .int .u64 0]) ?_ 1 _ rfl; (with_reducible repeat (first | refine blk_drewN ?_ _ | refine blk_drew ?_ | refine blk_alloc ?_ _)); refine blk_put (cs := #[.int .i64 0, .int .u64 0]) ?_ 0 _ rfl; (with_reducible repeat (first | refine blk_drewN ?_ _ | refine blk_drew ?_ | refine blk_alloc ?_ _)); exact BK383.out) Try.underlying90 rfl (by kernel_rfl)) rfl ?_
   exact bF
  rw [if_pos c35] at H
  have c35b0 : decide (a1 < 0) = true := decide_eq_true c35
  clear c35
  replace H := Option.bind_eq_some_iff.mp H
  obtain ⟨⟨t394, t395⟩, A360, H⟩ := H
  replace H : ((apogeeref01_plus.f k1 x388000_1 x388001_1 t394 t395).bind fun bt396 => (some (bt396.1, bt396.2))) = some (r1, r2) := H
  have A36 := bA A360
  clear A360
  replace H := Option.bind_eq_some_iff.mp H
  obtain ⟨⟨t396, t397⟩, A370, H⟩ := H
  replace H : (some (t396, t397)) = some (r1, r2) := H
  have A37 := bA A370
  clear A370
  simp only [Option.some.injEq, Prod.mk.injEq] at H
  obtain ⟨rfl, rfl⟩ := H
  try go_wp2
  replace BK383 := bA (blk_drew BK383.out)
  replace BK386 := bA (blk_drew BK386.out)
  replace BK387 := bA (blk_drew BK387.out)
  replace HB := bA (below_drew1 HB.out)
  refine start_ (n := 5) (S := fun w' => w'.cell? ⟨gb387, 0, none⟩ = some (.int .i64 x388000_1) ∧ w'.cell? ⟨gb387, 1, none⟩ = some (.int .u64 x388001_1) ∧ w'.cell? ⟨gb386, 0, none⟩ = some (.int .i64 x387000_1) ∧ w'.cell? ⟨gb386, 1, none⟩ = some (.int .u64 x387001_1)) (ds := [4]) #[false, false, false, false, false] (by kernel_rfl) rfl rfl ⟨bq BK387 0, bq BK387 1, bq BK386 0, bq BK386 1⟩ (fun hHeld => ?_)
  generalize wr.drew = w38 at BK383 BK386 BK387 HB hHeld ⊢
  refine take_ (i := 0) (N := some 31) (v := ?_) (a' := ?_) #[true, false, false, false, false] rfl rfl (by kernel_rfl) (fun _ _ _ h => h) (Or.inl ⟨by rfl, ?_⟩) hHeld ?_ ?_
  rotate_left
  ·rintro w' ⟨s0, s1, s2, s3⟩
   go_simp
   with_reducible rfl
  rotate_left
  ·simp only [Act.put, List.setIfInBounds_toArray, List.set_cons_zero, List.set_cons_succ, i64_w, i32_w]
   rfl
  refine take_ (i := 1) (N := some 32) (v := ?_) (a' := ?_) #[true, true, false, false, false] rfl rfl (by kernel_rfl) (fun _ _ _ h => h) (Or.inl ⟨by rfl, ?_⟩) hHeld ?_ ?_
  rotate_left
  ·rintro w' ⟨s0, s1, s2, s3⟩
   go_simp
   with_reducible rfl
  rotate_left
  ·simp only [Act.put, List.setIfInBounds_toArray, List.set_cons_zero, List.set_cons_succ, i64_w, i32_w]
   rfl
  refine one_ (i := 2) (N := some 33) #[true, true, true, false, false] rfl rfl (by kernel_rfl) (by decide) (fun K hK => ?_)
  refine goes_ Try.func111 (by kernel_rfl) rfl #[.agg #[.int .i64 x387000_1, .int .u64 x387001_1]] (by rfl) rfl rfl (by (try simp only [List.map_toArray, List.map_cons, List.map_nil]); first | done | rfl | (simp only [List.length_drop, List.length_take]; rfl)) ?_
  with_reducible refine (apogeeref01_Flip.calls k1 x387000_1 x387001_1 t394 t395 _ A36.out).mono ?_
  rintro e w39 ⟨rfl, hb⟩
  refine ⟨_, rfl, ?_⟩
  replace BK383 := bA (bB BK383 hb)
  replace BK386 := bA (bB BK386 hb)
  replace BK387 := bA (bB BK387 hb)
  replace HB := bA (bS hb)
  (try clear hb)
  refine hK.out _ _ ⟨bq BK387 0, bq BK387 1, bq BK386 0, bq BK386 1⟩ (fun hHeld => ?_)
  clear hK K
  refine bH ?_
  refine one_ (i := 3) (N := some 34) #[true, true, true, true, false] rfl rfl (by kernel_rfl) (by decide) (fun K hK => ?_)
  refine goes_ Try.func109 (by kernel_rfl) rfl #[.agg #[.int .i64 x388000_1, .int .u64 x388001_1], .agg #[.int .i64 t394, .int .u64 t395]] (by rfl) rfl rfl (by (try simp only [List.map_toArray, List.map_cons, List.map_nil]); first | done | rfl | (simp only [List.length_drop, List.length_take]; rfl)) ?_
  with_reducible refine (apogeeref01_plus.calls k1 x388000_1 x388001_1 t394 t395 t396 t397 _ A37.out).mono ?_
  rintro e w40 ⟨rfl, hb⟩
  refine ⟨_, rfl, ?_⟩
  replace BK383 := bA (bB BK383 hb)
  replace BK386 := bA (bB BK386 hb)
  replace BK387 := bA (bB BK387 hb)
  replace HB := bA (bS hb)
  (try clear hb)
  refine hK.out _ _ ⟨bq BK387 0, bq BK387 1, bq BK386 0, bq BK386 1⟩ (fun hHeld => ?_)
  clear hK K
  refine bH ?_
  refine last_ (i := 4) (N := none) #[true, true, true, true, true] rfl rfl (by kernel_rfl) (by decide) (fun K hK => ?_)
  have hs41 : w40.cell? ⟨gb387, 0, none⟩ = some (.int .i64 x388000_1) := bq BK387 0
  have hfs41 := blk_frozen BK387.out 0
  have hns41_0 := NB383_387.out
  have hns41_1 := NB386_387.out
  have hms41_0 := NB387_383.out
  have hms41_1 := NB387_386.out
  have hs42 : w40.cell? ⟨gb387, 1, none⟩ = some (.int .u64 x388001_1) := bq BK387 1
  have hfs42 := blk_frozen BK387.out 1
  have hns42_0 := NB383_387.out
  have hns42_1 := NB386_387.out
  have hms42_0 := NB387_383.out
  have hms42_1 := NB387_386.out
  refine skip_ (w1 := ?_) (by rfl) rfl ?_ ?_
  rotate_left
  ·go_simp
   rfl
  refine hK.out _ _ ?_
  clear hK K
  refine done_ (by kernel_rfl) ?_
  have hnb43 := NB387_383.out
  have hnc43 := NB383_387.out
  have hnb44 := NB387_386.out
  have hnc44 := NB386_387.out
  obtain ⟨hcz45_0, hcz45_1, hfz45_0, hfz45_1⟩ := bc2 BK387
  have hnb46 := NB383_386.out
  have hnc46 := NB386_383.out
  obtain ⟨hcz47_0, hcz47_1, hfz47_0, hfz47_1⟩ := bc2 BK383
  try go_wp2
  refine bodyPost_ret (results_cell_row rfl _ _ gb383 90 #[.int .i64 t396, .int .u64 t397] (0, 0) _ rfl (by (with_reducible repeat (first | refine blk_drewN ?_ _ | refine blk_drew ?_ | refine blk_alloc ?_ _)); refine blk_put (cs := #[.int .i64 t396, .int .u64 0]) ?_ 1 _ rfl; (with_reducible repeat (first | refine blk_drewN ?_ _ | refine blk_drew ?_ | refine blk_alloc ?_ _)); refine blk_put (cs := #[.int .i64 0, .int .u64 0]) ?_ 0 _ rfl; (repeat ((with_reducible repeat (first | refine blk_drewN ?_ _ | refine blk_drew ?_ | refine blk_alloc ?_ _)); refine blk_far ?_ NB383_387.out _)); (with_reducible repeat (first | refine blk_drewN ?_ _ | refine blk_drew ?_ | refine blk_alloc ?_ _)); exact BK383.out) Try.underlying90 rfl (by kernel_rfl)) rfl ?_
  exact bF
end Go.Proofs.Ytjmibjmlihmglaa.G
