-- Written by a program of this session out of the translation; Lean checks it.
import Derived.Test.YtfeekdoakoabeaaGx0
import Derived.Test.YtfeekdoakoabeaaGx17
namespace Go.Proofs.Ytfeekdoakoabeaa.G
open Go.RowKit Go.Proofs.YtfeekdoakoabeaaW.PrintWords Go.Proofs.YtfeekdoakoabeaaW.PrintLast Go.Proofs.YtfeekdoakoabeaaW.PrintMore
attribute [local go_sem] max2_int min2_int max_two min_two max_three min_three max_four min_four   -- for this text's walks alone
set_option linter.unusedVariables false
set_option linter.unusedSimpArgs false

/-! ### apogeeref01_plus: function 98 -/
def apogeeref01_plus.l0 : Nat → List Int → List Int → List Int → Int → Int → Option (Int × Int)
 | 0, _, _, _, _, _ => none
 | k + 1, x5, x6, x7, x8, x9 => if x9 < 128 then (if 0 ≤ x9 then (if x9 < (x5.length : Int) then (if x9 < (x6.length : Int) then (if x7.length < 17592186044416 then (apogeeref01_plus.l0 k x5 x6 (x7 ++ [Int.tmod (wrap64 ((wrap64 ((rd x5 x9) + (rd x6 x9))) + x8)) 2]) (wrap64 (Int.tdiv (wrap64 ((wrap64 ((rd x5 x9) + (rd x6 x9))) + x8)) 2)) (wrap64 (x9 + 1))) else (none)) else (none)) else (none)) else (none)) else ((apogeeref01_value.f k x7).bind fun bt419 => (some (bt419.1, bt419.2)))
def apogeeref01_plus.f (k : Nat) (a0_0 : Int) (a0_1 : Int) (a1_0 : Int) (a1_1 : Int) : Option (Int × Int) := (apogeeref01_bits.f k a0_0 a0_1).bind fun t408 => ((apogeeref01_bits.f k a1_0 a1_1).bind fun t411 => (apogeeref01_plus.l0 k t408 t411 ([] : List Int) 0 0))
theorem apogeeref01_plus.mono_l : ∀ k, (∀ y0 y1 y2 y3 y4, LeO (apogeeref01_plus.l0 k y0 y1 y2 y3 y4) (apogeeref01_plus.l0 (k + 1) y0 y1 y2 y3 y4))
 | 0 => fun _ _ _ _ _ r h => by simp [apogeeref01_plus.l0] at h
 | k + 1 => by
  have ih0 := apogeeref01_plus.mono_l k
  ·intro y0 y1 y2 y3 y4
   unfold apogeeref01_plus.l0
   have m0_ := @apogeeref01_bits.mono
   have m1_ := @apogeeref01_value.mono
   exact bMo
theorem apogeeref01_plus.mono : ∀ a0 a1 a2 a3 k, LeO (apogeeref01_plus.f k a0 a1 a2 a3) (apogeeref01_plus.f (k + 1) a0 a1 a2 a3) := by
 intro a0 a1 a2 a3 k
 have ih0 := apogeeref01_plus.mono_l k
 unfold apogeeref01_plus.f
 have m0_ := @apogeeref01_bits.mono
 have m1_ := @apogeeref01_value.mono
 exact bMo
def apogeeref01_plus.T7 : Bool × List (List Nat × List Nat) := (true, [([], []), ([], []), ([0, 1], [0, 1]), ([2], [2]), ([], []), ([], []), ([4, 5], [4, 5]), ([6], [6]), ([3, 7], [3, 7]), ([], []), ([8, 9], [8, 9]), ([10, 0, 1, 2, 3, 4, 5, 6, 7, 8, 9, 10], [10])])
def apogeeref01_plus.B7 : List Nat := [0, 0, 3, 7, 0, 0, 48, 112, 255, 0, 1023, 2047]
theorem apogeeref01_plus.tab7 : rtab .any (opsOf Try.f98 7) = apogeeref01_plus.T7 := by kernel_rfl
theorem apogeeref01_plus.bits7 : waitsOk apogeeref01_plus.T7.2 apogeeref01_plus.B7 = true := by kernel_rfl
set_option maxHeartbeats 8000000 in
set_option maxRecDepth 100000 in
theorem apogeeref01_plus.calls (k : Nat) (a0_0 : Int) (a0_1 : Int) (a1_0 : Int) (a1_1 : Int) (r1 : Int) (r2 : Int) (w : World) (h : apogeeref01_plus.f k a0_0 a0_1 a1_0 a1_1 = some (r1, r2)) :
  Calls Try.prog 98 #[.agg #[.int .i64 a0_0, .int .u64 a0_1], .agg #[.int .i64 a1_0, .int .u64 a1_1]] w fun e w' => e = .returned (.agg #[.int .i64 r1, .int .u64 r2]) ∧ Below w.heap.size w w' := by
 have hu112 := Try.underlying112
 have HB := bA (Below.refl w.heap.size w)
 have H : ((apogeeref01_bits.f k a0_0 a0_1).bind fun t408 => ((apogeeref01_bits.f k a1_0 a1_1).bind fun t411 => (apogeeref01_plus.l0 k t408 t411 ([] : List Int) 0 0))) = some (r1, r2) := h
 clear h
 replace H := Option.bind_eq_some_iff.mp H
 obtain ⟨t408, A30, H⟩ := H
 have A3 := bA A30
 clear A30
 replace H := Option.bind_eq_some_iff.mp H
 obtain ⟨t411, A40, H⟩ := H
 have A4 := bA A40
 clear A40
 have H' := bA H
 clear H
 go_enter Try.func98, Try.ntmps98
 try go_wp2_with (first | ((with_reducible refine gate_dst (N := 2) rfl ?_); refine bE (N := 2) (cs := #[.int .i64 a0_0, .int .u64 a0_1]) (t := 112) ?_; intro gb405 hg w5 hbox hb; have BK405 := bA (hbox); have GW405 := bA (bZ hg); have GE405 := bA (bZ hg); replace HB := bA (bS hb); clear hb hbox hg) | ((with_reducible refine gate_dst (N := 3) rfl ?_); refine bE (N := 3) (cs := #[.int .i64 a1_0, .int .u64 a1_1]) (t := 112) ?_; intro gb406 hg w6 hbox hb; have BK406 := bA (hbox); have GW406 := bA (bZ hg); have GE406 := bA (bZ hg); have NB405_406 := bA (bL BK405 hg); have NB406_405 := bA (bG BK405 hg); replace BK405 := bA (bB BK405 hb); replace HB := bA (bS hb); clear hb hbox hg) | ((with_reducible refine gate_dst (N := 4) rfl ?_); refine bE (N := 4) (cs := #[.int .i64 0, .int .u64 0]) (t := 112) ?_; intro gb407 hg w7 hbox hb; have BK407 := bA (hbox); have GW407 := bA (bZ hg); have GE407 := bA (bZ hg); have NB405_407 := bA (bL BK405 hg); have NB407_405 := bA (bG BK405 hg); have NB406_407 := bA (bL BK406 hg); have NB407_406 := bA (bG BK406 hg); replace BK405 := bA (bB BK405 hb); replace BK406 := bA (bB BK406 hb); replace HB := bA (bS hb); clear hb hbox hg))
 replace BK405 := bA (blk_drew BK405.out)
 replace BK406 := bA (blk_drew BK406.out)
 replace BK407 := bA (blk_drew BK407.out)
 replace HB := bA (below_drew1 HB.out)
 refine start_ (n := 6) (S := fun w' => w'.cell? ⟨gb405, 0, none⟩ = some (.int .i64 a0_0) ∧ w'.cell? ⟨gb405, 1, none⟩ = some (.int .u64 a0_1) ∧ w'.cell? ⟨gb406, 0, none⟩ = some (.int .i64 a1_0) ∧ w'.cell? ⟨gb406, 1, none⟩ = some (.int .u64 a1_1)) (ds := []) #[false, false, false, false, false, false] (by kernel_rfl) rfl rfl ⟨bq BK405 0, bq BK405 1, bq BK406 0, bq BK406 1⟩ (fun hHeld => ?_)
 generalize w7.drew = w8 at BK405 BK406 BK407 HB hHeld ⊢
 refine take_ (i := 0) (N := some 11) (v := ?_) (a' := ?_) #[true, false, false, false, false, false] rfl rfl (by kernel_rfl) (fun _ _ _ h => h) (Or.inl ⟨by rfl, ?_⟩) hHeld ?_ ?_
 rotate_left
 ·rintro w' ⟨s0, s1, s2, s3⟩
  go_simp
  with_reducible rfl
 rotate_left
 ·simp only [Act.put, List.setIfInBounds_toArray, List.set_cons_zero, List.set_cons_succ, i64_w, i32_w]
  rfl
 refine take_ (i := 2) (N := some 13) (v := ?_) (a' := ?_) #[true, false, true, false, false, false] rfl rfl (by kernel_rfl) (fun _ _ _ h => h) (Or.inl ⟨by rfl, ?_⟩) hHeld ?_ ?_
 rotate_left
 ·rintro w' ⟨s0, s1, s2, s3⟩
  go_simp
  with_reducible rfl
 rotate_left
 ·simp only [Act.put, List.setIfInBounds_toArray, List.set_cons_zero, List.set_cons_succ, i64_w, i32_w]
  rfl
 refine one_ (i := 1) (N := some 12) #[true, true, true, false, false, false] rfl rfl (by kernel_rfl) (by decide) (fun K hK => ?_)
 refine goes_ Try.func102 (by kernel_rfl) rfl #[.agg #[.int .i64 a0_0, .int .u64 a0_1]] (by rfl) rfl rfl (by (try simp only [List.map_toArray, List.map_cons, List.map_nil]); first | done | rfl | (simp only [List.length_drop, List.length_take]; rfl)) ?_
 with_reducible refine (apogeeref01_bits.calls k a0_0 a0_1 t408 _ A3.out).mono ?_
 rintro e w9 ⟨v409, rfl, ho0, hb⟩
 refine ⟨_, rfl, ?_⟩
 have HO410 := bA (Kd.R_lower ho0 bY)
 replace BK405 := bA (bB BK405 hb)
 replace BK406 := bA (bB BK406 hb)
 replace BK407 := bA (bB BK407 hb)
 replace HB := bA (bS hb)
 (try clear hb)
 (try clear ho0)
 refine hK.out _ _ ⟨bq BK405 0, bq BK405 1, bq BK406 0, bq BK406 1⟩ (fun hHeld => ?_)
 clear hK K
 refine bI 12 ?_
 refine one_ (i := 3) (N := some 14) #[true, true, true, true, false, false] rfl rfl (by kernel_rfl) (by decide) (fun K hK => ?_)
 refine goes_ Try.func102 (by kernel_rfl) rfl #[.agg #[.int .i64 a1_0, .int .u64 a1_1]] (by rfl) rfl rfl (by (try simp only [List.map_toArray, List.map_cons, List.map_nil]); first | done | rfl | (simp only [List.length_drop, List.length_take]; rfl)) ?_
 with_reducible refine (apogeeref01_bits.calls k a1_0 a1_1 t411 _ A4.out).mono ?_
 rintro e w10 ⟨v412, rfl, ho0, hb⟩
 refine ⟨_, rfl, ?_⟩
 have HO413 := bA (Kd.R_lower (Kd.R_new' ho0 (Kd.R_lt (bRr HO410))) bY)
 replace HO410 := bA (Kd.R_elder' (bRr HO410) (Kd.R_base ho0) hb)
 replace BK405 := bA (bB BK405 hb)
 replace BK406 := bA (bB BK406 hb)
 replace BK407 := bA (bB BK407 hb)
 replace HB := bA (bS hb)
 (try clear hb)
 (try clear ho0)
 refine hK.out _ _ ⟨bq BK405 0, bq BK405 1, bq BK406 0, bq BK406 1⟩ (fun hHeld => ?_)
 clear hK K
 refine bI 14 ?_
 refine pure_ (i := 4) (N := some 5) (v := ?_) (a' := ?_) #[true, true, true, true, true, false] rfl rfl (by kernel_rfl) (fun _ _ _ h => h) (Or.inl ⟨by rfl, ?_⟩) ?_ ?_
 rotate_left
 ·intro w'
  go_simp
  with_reducible rfl
 rotate_left
 ·simp only [Act.put, List.setIfInBounds_toArray, List.set_cons_zero, List.set_cons_succ, i64_w, i32_w]
  rfl
 refine pure_ (i := 5) (N := some 6) (v := ?_) (a' := ?_) #[true, true, true, true, true, true] rfl rfl (by kernel_rfl) (fun _ _ _ h => h) (Or.inl ⟨by rfl, ?_⟩) ?_ ?_
 rotate_left
 ·intro w'
  go_simp
  with_reducible rfl
 rotate_left
 ·simp only [Act.put, List.setIfInBounds_toArray, List.set_cons_zero, List.set_cons_succ, i64_w, i32_w]
  rfl
 refine done_ (by kernel_rfl) ?_
 try go_wp2
 go_loopg [7, 8, 9] k (fun kq v7 v8 v9 w' => ∃ (x7_1 : List Int) (x8_1 : Int) (x9_1 : Int), v8 = .int .i64 x8_1 ∧ v9 = .int .i64 x9_1 ∧ Aside0 (apogeeref01_plus.l0 kq t408 t411 x7_1 x8_1 x9_1 = some (r1, r2)) ∧ Aside0 (kq ≤ k) ∧ Aside0 (Kd.R (Kd.int .i64) 3 w' w.heap.size (fun k_ => some k_ ≠ (v412 : Value).ownBlock ∧ some k_ ≠ (v7 : Value).ownBlock) v409 t408) ∧ Aside0 (Kd.R (Kd.int .i64) 3 w' w.heap.size (fun k_ => some k_ ≠ (v409 : Value).ownBlock ∧ some k_ ≠ (v7 : Value).ownBlock) v412 t411) ∧ Aside0 (Kd.R (Kd.int .i64) 3 w' w.heap.size (fun k_ => some k_ ≠ (v409 : Value).ownBlock ∧ some k_ ≠ (v412 : Value).ownBlock) v7 x7_1) ∧ Aside0 (w'.heap[gb405]? = some (.cells #[.int .i64 a0_0, .int .u64 a0_1] 112 (0, 0))) ∧ Aside0 (w'.heap[gb406]? = some (.cells #[.int .i64 a1_0, .int .u64 a1_1] 112 (0, 0))) ∧ Aside0 (w'.heap[gb407]? = some (.cells #[.int .i64 0, .int .u64 0] 112 (0, 0))) ∧ Aside0 (Below w.heap.size w w'))
 case atStart => exact ⟨(([] : List Int)), (0), (0), bs, bs, H', ⟨Nat.le_refl _⟩, ⟨by (with_reducible repeat (first | apply Kd.R_alloc | apply Kd.R_drewN | apply Kd.R_drew)); exact Kd.R_mono HO410.out (fun _ hk => ⟨hk.2, (by simp [Value.ownBlock])⟩)⟩, ⟨by (with_reducible repeat (first | apply Kd.R_alloc | apply Kd.R_drewN | apply Kd.R_drew)); exact Kd.R_mono HO413.out (fun _ hk => ⟨hk.2, (by simp [Value.ownBlock])⟩)⟩, ⟨by first | exact Kd.R_nil _ _ _ _ _ | exact Kd.N_nil _ _ _ _ _ | exact Kd.V_nil _ _ _ _ _ | exact Kd.Q_nil _ _ _ _ _ | exact Kd.S_nil _ _ _ _ _⟩, ⟨by (with_reducible repeat (first | refine blk_drewN ?_ _ | refine blk_drew ?_ | refine blk_alloc ?_ _)); exact BK405.out⟩, ⟨by (with_reducible repeat (first | refine blk_drewN ?_ _ | refine blk_drew ?_ | refine blk_alloc ?_ _)); exact BK406.out⟩, ⟨by (with_reducible repeat (first | refine blk_drewN ?_ _ | refine blk_drew ?_ | refine blk_alloc ?_ _)); exact BK407.out⟩, ⟨bX⟩⟩
 clear H'
 try clear c1
 try clear p2
 try clear c9
 try clear c10
 obtain ⟨x7_1, x8_1, x9_1, rfl, rfl, HA, HK1, HO_5, HO_6, HO_7, BK405, BK406, BK407, HB⟩ := hrel
 cases gk with
 | zero => exact absurd HA.out (by simp [apogeeref01_plus.l0])
 | succ k1 =>
  have H := HA.out
  clear HA
  simp only [apogeeref01_plus.l0] at H
  by_cases c11 : x9_1 < 128
  rotate_left
  ·rw [if_neg c11] at H
   have c11b0 : decide (x9_1 < 128) = false := decide_eq_false c11
   clear c11
   replace H := Option.bind_eq_some_iff.mp H
   obtain ⟨⟨t419, t420⟩, A200, H⟩ := H
   replace H : (some (t419, t420)) = some (r1, r2) := H
   have A20 := bA A200
   clear A200
   simp only [Option.some.injEq, Prod.mk.injEq] at H
   obtain ⟨rfl, rfl⟩ := H
   obtain ⟨Ao21, co21, eo21⟩ := Kd.R_slice HO_7.out
   subst eo21
   go_wp2_with (first | ((first | ((with_reducible refine gate_callee (f := 103) rfl ?_); refine bC (some 38) Try.func103 #[.slice Ao21 x7_1.length co21] ?_) | go_at_call 103); (with_reducible refine (apogeeref01_value.calls k1 _ _ x7_1 t419 t420 _ ?side1 ?side2 A20.out).mono ?_); (case side1 => repeat (first | exact (Kd.R_reads' HO_7.out).2.2 | (with_reducible refine Kd.C_alloc ?_ _) | (with_reducible refine Kd.C_drewN ?_ _) | (with_reducible refine Kd.C_drew ?_))); (case side2 => exact (Kd.R_reads' HO_7.out).2.1); rintro e w22 ⟨rfl, hb⟩; (first | refine ⟨_, rfl, ?_⟩ | skip); replace HO_5 := bA (Kd.R_below (bRr HO_5) hb); replace HO_6 := bA (Kd.R_below (bRr HO_6) hb); replace HO_7 := bA (Kd.R_below (bRr HO_7) hb); replace BK405 := bA (bB BK405 hb); replace BK406 := bA (bB BK406 hb); replace BK407 := bA (bB BK407 hb); replace HB := bA (bS hb); (try clear hb); have hnb23 := NB407_405.out; have hnc23 := NB405_407.out; have hnb24 := NB407_406.out; have hnc24 := NB406_407.out; obtain ⟨hcz25_0, hcz25_1, hfz25_0, hfz25_1⟩ := bc2 BK407))
   refine bodyPost_ret (results_cell_row rfl _ _ gb407 112 #[.int .i64 t419, .int .u64 t420] (0, 0) _ rfl (by (with_reducible repeat (first | refine blk_drewN ?_ _ | refine blk_drew ?_ | refine blk_alloc ?_ _)); refine blk_put (cs := #[.int .i64 t419, .int .u64 0]) ?_ 1 _ rfl; (with_reducible repeat (first | refine blk_drewN ?_ _ | refine blk_drew ?_ | refine blk_alloc ?_ _)); refine blk_put (cs := #[.int .i64 0, .int .u64 0]) ?_ 0 _ rfl; (with_reducible repeat (first | refine blk_drewN ?_ _ | refine blk_drew ?_ | refine blk_alloc ?_ _)); exact BK407.out) Try.underlying112 rfl (by kernel_rfl)) rfl ?_
   exact bF
  rw [if_pos c11] at H
  have c11b0 : decide (x9_1 < 128) = true := decide_eq_true c11
  clear c11
  by_cases c12 : 0 ≤ x9_1
  rotate_left
  ·rw [if_neg c12] at H
   exact absurd H (by simp)
  rw [if_pos c12] at H
  have c12b0 : decide (0 ≤ x9_1) = true := decide_eq_true c12
  clear c12
  by_cases c13 : x9_1 < (t408.length : Int)
  rotate_left
  ·rw [if_neg c13] at H
   exact absurd H (by simp)
  rw [if_pos c13] at H
  have c13b0 : decide (x9_1 < (t408.length : Int)) = true := decide_eq_true c13
  clear c13
  by_cases c14 : x9_1 < (t411.length : Int)
  rotate_left
  ·rw [if_neg c14] at H
   exact absurd H (by simp)
  rw [if_pos c14] at H
  have c14b0 : decide (x9_1 < (t411.length : Int)) = true := decide_eq_true c14
  clear c14
  by_cases c15 : x7_1.length < 17592186044416
  rotate_left
  ·rw [if_neg c15] at H
   exact absurd H (by simp)
  rw [if_pos c15] at H
  have LMc15 := bA c15
  clear c15
  obtain ⟨y416, hy416⟩ : ∃ y_ : List Int, y_ = (x7_1 ++ [Int.tmod (wrap64 ((wrap64 ((rd t408 x9_1) + (rd t411 x9_1))) + x8_1)) 2]) := ⟨_, rfl⟩
  replace H : (apogeeref01_plus.l0 k1 t408 t411 y416 (wrap64 (Int.tdiv (wrap64 ((wrap64 ((rd t408 x9_1) + (rd t411 x9_1))) + x8_1)) 2)) (wrap64 (x9_1 + 1))) = some (r1, r2) := by first | (rw [hy416]; with_reducible exact H) | (have H2_ := (Option.bind_some _ _).symm.trans H; rw [hy416]; with_reducible exact H2_) | (have H2_ := (Option.bind_some _ _).symm.trans H; with_reducible exact H2_) | with_reducible exact H | (rw [hy416]; exact H) | exact H
  have Ny416 := bA hy416
  clear hy416
  have H' := bA H
  clear H
  try go_wp2
  replace HO_5 := bA (Kd.R_drew HO_5.out)
  replace HO_6 := bA (Kd.R_drew HO_6.out)
  replace HO_7 := bA (Kd.R_drew HO_7.out)
  replace BK405 := bA (blk_drew BK405.out)
  replace BK406 := bA (blk_drew BK406.out)
  replace BK407 := bA (blk_drew BK407.out)
  replace HB := bA (below_drew1 HB.out)
  obtain ⟨Ao17, co17, eo17⟩ := Kd.R_slice HO_5.out
  (first | subst eo17 | (injection eo17 with f1_ f2_ f3_; have f4_ := f1_.symm; have f5_ := f3_.symm; clear f1_ f2_ f3_; subst f4_; subst f5_))
  have p414 : 0 ≤ (x9_1 : Int) := bo
  have q414 : x9_1 < (t408.length : Int) := bo
  obtain ⟨ad414, e414, hx414_0⟩ := Kd.at_int (Kd.R_reads' HO_5.out).2.2 x9_1 p414 q414
  cases e414
  replace p414 := eq_true p414
  replace q414 := eq_true q414
  obtain ⟨Ao18, co18, eo18⟩ := Kd.R_slice HO_6.out
  (first | subst eo18 | (injection eo18 with f1_ f2_ f3_; have f4_ := f1_.symm; have f5_ := f3_.symm; clear f1_ f2_ f3_; subst f4_; subst f5_))
  have p415 : 0 ≤ (x9_1 : Int) := bo
  have q415 : x9_1 < (t411.length : Int) := bo
  obtain ⟨ad415, e415, hx415_0⟩ := Kd.at_int (Kd.R_reads' HO_6.out).2.2 x9_1 p415 q415
  cases e415
  replace p415 := eq_true p415
  replace q415 := eq_true q415
  refine start_ (n := 12) (S := fun w' => w'.cell? (ad414.add (x9_1).toNat) = some (.int .i64 (rd t408 x9_1)) ∧ w'.cell? (ad415.add (x9_1).toNat) = some (.int .i64 (rd t411 x9_1))) (ds := []) #[false,false,false,false,false,false,false,false,false,false,false,false] (by kernel_rfl) rfl rfl ⟨hx414_0, hx415_0⟩ (fun hHeld => ?_); refine with_tabW apogeeref01_plus.tab7 apogeeref01_plus.bits7 (fun HT_ HW_ => ?_)
  generalize wr.drew = w16 at HO_5 HO_6 HO_7 BK405 BK406 BK407 HB hx414_0 hx415_0 hHeld ⊢
  refine bU (i := 0) (N := some 19) ?_
  refine bU (i := 1) (N := some 20) ?_
  refine bU (i := 2) (N := some 21) ?_
  refine bU (i := 4) (N := some 23) ?_
  refine bU (i := 5) (N := some 24) ?_
  refine bU (i := 6) (N := some 25) ?_
  refine bU (i := 9) (N := some 28) ?_
  refine bW (i := 3) (N := some 22) hHeld ?_
  refine bW (i := 7) (N := some 26) hHeld ?_
  refine bU (i := 8) (N := some 27) ?_
  refine bU (i := 10) (N := some 29) ?_
  refine bU (i := 11) (N := some 10) ?_
  refine done_ (done_of HT_.out (by kernel_rfl)) ?_
  try go_wp2_with (first | ((with_reducible refine gate_builtin (b := .append) (xs := #[.tmp 30, .tmp 33]) rfl ?_); at_builtin; refine Kd.R_append (Kd.int .i64) (w0 := w) w.heap.size rfl (.tmp 30) (.tmp 33) 122 3 (.int .i64 0) 8 rfl Try.underlying122 info3 rfl (by decide) (by omega) u7 x7_1 (Int.tmod (wrap64 ((wrap64 ((rd t408 x9_1) + (rd t411 x9_1))) + x8_1)) 2) [.int .i64 (Int.tmod (wrap64 ((wrap64 ((rd t408 x9_1) + (rd t411 x9_1))) + x8_1)) 2)] (fun k_ => some k_ ≠ (.slice (some ad414) t408.length co17 : Value).ownBlock ∧ some k_ ≠ (.slice (some ad415) t411.length co18 : Value).ownBlock) (fun _ => False) rfl rfl ?aP (fun _ hk => hk.elim) ?aF ?aO ?aB ?aS ?aL ?_; (case aP => exact rfl); (case aB => exact bX); (case aF => exact (fun k_ hk => ⟨Kd.fresh' (Kd.R_lt (bRr HO_5)) k_ hk, Kd.fresh' (Kd.R_lt (bRr HO_6)) k_ hk⟩)); (case aO => exact (bRr HO_7)); (case aS => exact bY); (case aL => have := LMc15.out; omega); intro v417 w19 ho hb hg hat; rw [← Ny416.out] at ho; have HO418 := bA (ho); replace HO_5 := bA (Kd.R_after (ok := (fun k_ => some k_ ≠ (.slice (some ad415) t411.length co18 : Value).ownBlock)) (bRr HO_5) hg hat); replace HO_6 := bA (Kd.R_after (ok := (fun k_ => some k_ ≠ (.slice (some ad414) t408.length co17 : Value).ownBlock)) (bRr HO_6) hg hat); replace BK405 := bA (blk_grown (g := gb405) (o := .cells #[.int .i64 a0_0, .int .u64 a0_1] 112 (0, 0)) (bP BK405) hg (Kd.R_ne HO_7.out BK405.out (by decide))); replace BK406 := bA (blk_grown (g := gb406) (o := .cells #[.int .i64 a1_0, .int .u64 a1_1] 112 (0, 0)) (bP BK406) hg (Kd.R_ne HO_7.out BK406.out (by decide))); replace BK407 := bA (blk_grown (g := gb407) (o := .cells #[.int .i64 0, .int .u64 0] 112 (0, 0)) (bP BK407) hg (Kd.R_ne HO_7.out BK407.out (by decide))); replace HB := bA (hb); clear HO_7; clear ho hb hg hat))
  go_roundg k1
  case measure => have := HK1.out; omega
  case rel => exact ⟨(y416), (wrap64 (Int.tdiv (wrap64 ((wrap64 ((rd t408 x9_1) + (rd t411 x9_1))) + x8_1)) 2)), (wrap64 (x9_1 + 1)), bs, bs, H', ⟨by have := HK1.out; omega⟩, ⟨bRr HO_5⟩, ⟨bRr HO_6⟩, ⟨bRr HO418⟩, ⟨by (with_reducible repeat (first | refine blk_drewN ?_ _ | refine blk_drew ?_ | refine blk_alloc ?_ _)); exact BK405.out⟩, ⟨by (with_reducible repeat (first | refine blk_drewN ?_ _ | refine blk_drew ?_ | refine blk_alloc ?_ _)); exact BK406.out⟩, ⟨by (with_reducible repeat (first | refine blk_drewN ?_ _ | refine blk_drew ?_ | refine blk_alloc ?_ _)); exact BK407.out⟩, ⟨bX⟩⟩
/-! ### apogeeref01_Flip: function 99 -/
def apogeeref01_Flip.f (k : Nat) (a0_0 : Int) (a0_1 : Int) : Option (Int × Int) := (apogeeref01_plus.f k (Go.bits .xor .i64 (-1) a0_0) (Go.bits .xor .u64 (-1) a0_1) 0 1).bind fun bt423 => (some (bt423.1, bt423.2))
theorem apogeeref01_Flip.mono : ∀ a0 a1 k, LeO (apogeeref01_Flip.f k a0 a1) (apogeeref01_Flip.f (k + 1) a0 a1) := by
 intro a0 a1 k
 unfold apogeeref01_Flip.f
 have m0_ := @apogeeref01_plus.mono
 exact bMo
set_option maxHeartbeats 8000000 in
set_option maxRecDepth 100000 in
theorem apogeeref01_Flip.calls (k : Nat) (a0_0 : Int) (a0_1 : Int) (r1 : Int) (r2 : Int) (w : World) (h : apogeeref01_Flip.f k a0_0 a0_1 = some (r1, r2)) :
  Calls Try.prog 99 #[.agg #[.int .i64 a0_0, .int .u64 a0_1]] w fun e w' => e = .returned (.agg #[.int .i64 r1, .int .u64 r2]) ∧ Below w.heap.size w w' := by
 have hu112 := Try.underlying112
 have HB := bA (Below.refl w.heap.size w)
 have H : ((apogeeref01_plus.f k (Go.bits .xor .i64 (-1) a0_0) (Go.bits .xor .u64 (-1) a0_1) 0 1).bind fun bt423 => (some (bt423.1, bt423.2))) = some (r1, r2) := h
 clear h
 replace H := Option.bind_eq_some_iff.mp H
 obtain ⟨⟨t423, t424⟩, A20, H⟩ := H
 replace H : (some (t423, t424)) = some (r1, r2) := H
 have A2 := bA A20
 clear A20
 simp only [Option.some.injEq, Prod.mk.injEq] at H
 obtain ⟨rfl, rfl⟩ := H
 go_enter Try.func99, Try.ntmps99
 go_wp2_with (first | ((with_reducible refine gate_dst (N := 1) rfl ?_); refine bE (N := 1) (cs := #[.int .i64 a0_0, .int .u64 a0_1]) (t := 112) ?_; intro gb421 hg w3 hbox hb; have BK421 := bA (hbox); have GW421 := bA (bZ hg); have GE421 := bA (bZ hg); replace HB := bA (bS hb); clear hb hbox hg) | ((with_reducible refine gate_dst (N := 2) rfl ?_); refine bE (N := 2) (cs := #[.int .i64 0, .int .u64 0]) (t := 112) ?_; intro gb422 hg w4 hbox hb; have BK422 := bA (hbox); have GW422 := bA (bZ hg); have GE422 := bA (bZ hg); have NB421_422 := bA (bL BK421 hg); have NB422_421 := bA (bG BK421 hg); replace BK421 := bA (bB BK421 hb); replace HB := bA (bS hb); clear hb hbox hg; have hnb5 := NB421_422.out; have hnc5 := NB422_421.out; obtain ⟨hcz6_0, hcz6_1, hfz6_0, hfz6_1⟩ := bc2 BK421) | ((first | ((with_reducible refine gate_callee (f := 98) rfl ?_); refine bC (some 11) Try.func98 #[.agg #[.int .i64 (Go.bits .xor .i64 (-1) a0_0), .int .u64 (Go.bits .xor .u64 (-1) a0_1)], .agg #[.int .i64 0, .int .u64 1]] ?_) | go_at_call 98); (with_reducible refine (apogeeref01_plus.calls k (Go.bits .xor .i64 (-1) a0_0) (Go.bits .xor .u64 (-1) a0_1) 0 1 t423 t424 _ A2.out).mono ?_); rintro e w7 ⟨rfl, hb⟩; (first | refine ⟨_, rfl, ?_⟩ | skip); replace BK421 := bA (bB BK421 hb); replace BK422 := bA (bB BK422 hb); replace HB := bA (bS hb); (try clear hb); obtain ⟨hcz8_0, hcz8_1, hfz8_0, hfz8_1⟩ := bc2 BK422))
 refine bodyPost_ret (results_cell_row rfl _ _ gb422 112 #[.int .i64 t423, .int .u64 t424] (0, 0) _ rfl (by (with_reducible repeat (first | refine blk_drewN ?_ _ | refine blk_drew ?_ | refine blk_alloc ?_ _)); refine blk_put (cs := #[.int .i64 t423, .int .u64 0]) ?_ 1 _ rfl; (with_reducible repeat (first | refine blk_drewN ?_ _ | refine blk_drew ?_ | refine blk_alloc ?_ _)); refine blk_put (cs := #[.int .i64 0, .int .u64 0]) ?_ 0 _ rfl; (with_reducible repeat (first | refine blk_drewN ?_ _ | refine blk_drew ?_ | refine blk_alloc ?_ _)); exact BK422.out) Try.underlying112 rfl (by kernel_rfl)) rfl ?_
 exact bF
/-! ### apogeeref01_Mul: function 89 -/
def apogeeref01_Mul.l0 : Nat → Int → Int → Int → Int → Int → Int → Int → Option (Int × Int)
 | 0, _, _, _, _, _, _, _ => none
 | k + 1, x1, x7, x8, x429000, x429001, x430000, x430001 => if x8 < 64 then (if 0 ≤ x8 then (if (Go.bits .and .u64 (shr .u64 x7 x8) 1) = 1 then ((apogeeref01_plus.f k x430000 x430001 x429000 x429001).bind fun bt430 => ((apogeeref01_plus.f k x429000 x429001 x429000 x429001).bind fun bt432 => (apogeeref01_Mul.l0 k x1 x7 (wrap64 (x8 + 1)) bt432.1 bt432.2 bt430.1 bt430.2))) else ((apogeeref01_plus.f k x429000 x429001 x429000 x429001).bind fun bt434 => (apogeeref01_Mul.l0 k x1 x7 (wrap64 (x8 + 1)) bt434.1 bt434.2 x430000 x430001))) else (none)) else (if x1 < 0 then ((apogeeref01_Flip.f k x429000 x429001).bind fun bt436 => ((apogeeref01_plus.f k x430000 x430001 bt436.1 bt436.2).bind fun bt438 => (some (bt438.1, bt438.2)))) else (some (x430000, x430001)))
def apogeeref01_Mul.f (k : Nat) (a0 : Int) (a1 : Int) : Option (Int × Int) := (apogeeref01_Of.f a0).bind fun bt426 => (apogeeref01_Mul.l0 k a1 (IntKind.u64.wrap (a1)) 0 bt426.1 bt426.2 0 0)
theorem apogeeref01_Mul.mono_l : ∀ k, (∀ y0 y1 y2 y3 y4 y5 y6, LeO (apogeeref01_Mul.l0 k y0 y1 y2 y3 y4 y5 y6) (apogeeref01_Mul.l0 (k + 1) y0 y1 y2 y3 y4 y5 y6))
 | 0 => fun _ _ _ _ _ _ _ r h => by simp [apogeeref01_Mul.l0] at h
 | k + 1 => by
  have ih0 := apogeeref01_Mul.mono_l k
  ·intro y0 y1 y2 y3 y4 y5 y6
   unfold apogeeref01_Mul.l0
   have m0_ := @apogeeref01_Flip.mono
   have m1_ := @apogeeref01_plus.mono
   exact bMo
theorem apogeeref01_Mul.mono : ∀ a0 a1 k, LeO (apogeeref01_Mul.f k a0 a1) (apogeeref01_Mul.f (k + 1) a0 a1) := by
 intro a0 a1 k
 have ih0 := apogeeref01_Mul.mono_l k
 unfold apogeeref01_Mul.f
 have m0_ := @apogeeref01_Flip.mono
 have m1_ := @apogeeref01_plus.mono
 exact bMo
set_option maxHeartbeats 8000000 in
set_option maxRecDepth 100000 in
theorem apogeeref01_Mul.calls (k : Nat) (a0 : Int) (a1 : Int) (r1 : Int) (r2 : Int) (w : World) (h : apogeeref01_Mul.f k a0 a1 = some (r1, r2)) :
  Calls Try.prog 89 #[.int .i64 a0, .int .i64 a1] w fun e w' => e = .returned (.agg #[.int .i64 r1, .int .u64 r2]) ∧ Below w.heap.size w w' := by
 have hu112 := Try.underlying112
 have HB := bA (Below.refl w.heap.size w)
 have H : ((apogeeref01_Of.f a0).bind fun bt426 => (apogeeref01_Mul.l0 k a1 (IntKind.u64.wrap (a1)) 0 bt426.1 bt426.2 0 0)) = some (r1, r2) := h
 clear h
 replace H := Option.bind_eq_some_iff.mp H
 obtain ⟨⟨t426, t427⟩, A30, H⟩ := H
 replace H : (apogeeref01_Mul.l0 k a1 (IntKind.u64.wrap (a1)) 0 t426 t427 0 0) = some (r1, r2) := H
 have A3 := bA A30
 clear A30
 have H' := bA H
 clear H
 go_enter Try.func89, Try.ntmps89
 go_wp2_with (first | ((with_reducible refine gate_dst (N := 4) rfl ?_); refine bE (N := 4) (cs := #[.int .i64 0, .int .u64 0]) (t := 112) ?_; intro gb425 hg w4 hbox hb; have BK425 := bA (hbox); have GW425 := bA (bZ hg); have GE425 := bA (bZ hg); replace HB := bA (bS hb); clear hb hbox hg) | ((first | ((with_reducible refine gate_callee (f := 97) rfl ?_); refine bC (some 10) Try.func97 #[.int .i64 a0] ?_) | go_at_call 97); (with_reducible refine (apogeeref01_Of.calls a0 t426 t427 _ A3.out).mono ?_); rintro e w5 ⟨rfl, hb⟩; (first | refine ⟨_, rfl, ?_⟩ | skip); replace BK425 := bA (bB BK425 hb); replace HB := bA (bS hb); (try clear hb)) | ((with_reducible refine gate_dst (N := 5) rfl ?_); refine bE (N := 5) (cs := #[.int .i64 0, .int .u64 0]) (t := 112) ?_; intro gb428 hg w6 hbox hb; have BK428 := bA (hbox); have GW428 := bA (bZ hg); have GE428 := bA (bZ hg); have NB425_428 := bA (bL BK425 hg); have NB428_425 := bA (bG BK425 hg); replace BK425 := bA (bB BK425 hb); replace HB := bA (bS hb); clear hb hbox hg; have hnb7 := NB428_425.out; have hnc7 := NB425_428.out; obtain ⟨hcz8_0, hcz8_1, hfz8_0, hfz8_1⟩ := bc2 BK428) | ((with_reducible refine gate_dst (N := 6) rfl ?_); refine bE (N := 6) (cs := #[.int .i64 0, .int .u64 0]) (t := 112) ?_; intro gb429 hg w9 hbox hb; have BK429 := bA (hbox); have GW429 := bA (bZ hg); have GE429 := bA (bZ hg); have NB425_429 := bA ((by rw [hg]; exact Nat.ne_of_lt (blk_lt (g := gb425) (o := .cells #[.int .i64 0, .int .u64 0] 112 (0, 0)) (by (repeat ((with_reducible repeat (first | refine blk_drewN ?_ _ | refine blk_drew ?_ | refine blk_alloc ?_ _)); refine blk_far ?_ NB425_428.out _)); (with_reducible repeat (first | refine blk_drewN ?_ _ | refine blk_drew ?_ | refine blk_alloc ?_ _)); exact BK425.out)) : gb425 ≠ gb429)); have NB429_425 := bA ((by rw [hg]; exact Nat.ne_of_gt (blk_lt (g := gb425) (o := .cells #[.int .i64 0, .int .u64 0] 112 (0, 0)) (by (repeat ((with_reducible repeat (first | refine blk_drewN ?_ _ | refine blk_drew ?_ | refine blk_alloc ?_ _)); refine blk_far ?_ NB425_428.out _)); (with_reducible repeat (first | refine blk_drewN ?_ _ | refine blk_drew ?_ | refine blk_alloc ?_ _)); exact BK425.out)) : gb429 ≠ gb425)); have NB428_429 := bA ((by rw [hg]; exact Nat.ne_of_lt (blk_lt (g := gb428) (o := .cells #[.int .i64 t426, .int .u64 t427] 112 (0, 0)) (by (with_reducible repeat (first | refine blk_drewN ?_ _ | refine blk_drew ?_ | refine blk_alloc ?_ _)); refine blk_put (cs := #[.int .i64 t426, .int .u64 0]) ?_ 1 _ rfl; (with_reducible repeat (first | refine blk_drewN ?_ _ | refine blk_drew ?_ | refine blk_alloc ?_ _)); refine blk_put (cs := #[.int .i64 0, .int .u64 0]) ?_ 0 _ rfl; (with_reducible repeat (first | refine blk_drewN ?_ _ | refine blk_drew ?_ | refine blk_alloc ?_ _)); exact BK428.out)) : gb428 ≠ gb429)); have NB429_428 := bA ((by rw [hg]; exact Nat.ne_of_gt (blk_lt (g := gb428) (o := .cells #[.int .i64 t426, .int .u64 t427] 112 (0, 0)) (by (with_reducible repeat (first | refine blk_drewN ?_ _ | refine blk_drew ?_ | refine blk_alloc ?_ _)); refine blk_put (cs := #[.int .i64 t426, .int .u64 0]) ?_ 1 _ rfl; (with_reducible repeat (first | refine blk_drewN ?_ _ | refine blk_drew ?_ | refine blk_alloc ?_ _)); refine blk_put (cs := #[.int .i64 0, .int .u64 0]) ?_ 0 _ rfl; (with_reducible repeat (first | refine blk_drewN ?_ _ | refine blk_drew ?_ | refine blk_alloc ?_ _)); exact BK428.out)) : gb429 ≠ gb428)); replace BK425 := bA (blk_below (g := gb425) (o := .cells #[.int .i64 0, .int .u64 0] 112 (0, 0)) (by (repeat ((with_reducible repeat (first | refine blk_drewN ?_ _ | refine blk_drew ?_ | refine blk_alloc ?_ _)); refine blk_far ?_ NB425_428.out _)); (with_reducible repeat (first | refine blk_drewN ?_ _ | refine blk_drew ?_ | refine blk_alloc ?_ _)); exact BK425.out) hb); replace BK428 := bA (blk_below (g := gb428) (o := .cells #[.int .i64 t426, .int .u64 t427] 112 (0, 0)) (by (with_reducible repeat (first | refine blk_drewN ?_ _ | refine blk_drew ?_ | refine blk_alloc ?_ _)); refine blk_put (cs := #[.int .i64 t426, .int .u64 0]) ?_ 1 _ rfl; (with_reducible repeat (first | refine blk_drewN ?_ _ | refine blk_drew ?_ | refine blk_alloc ?_ _)); refine blk_put (cs := #[.int .i64 0, .int .u64 0]) ?_ 0 _ rfl; (with_reducible repeat (first | refine blk_drewN ?_ _ | refine blk_drew ?_ | refine blk_alloc ?_ _)); exact BK428.out) hb); replace HB := bA (bS hb); clear hb hbox hg; have hnb10 := NB429_425.out; have hnc10 := NB425_429.out; have hnb11 := NB429_428.out; have hnc11 := NB428_429.out; obtain ⟨hcz12_0, hcz12_1, hfz12_0, hfz12_1⟩ := bc2 BK429))
 go_loopg [8] k (fun kq v8 w' => ∃ (x8_1 : Int) (x429000_1 : Int) (x429001_1 : Int) (x430000_1 : Int) (x430001_1 : Int), v8 = .int .i64 x8_1 ∧ Aside0 (apogeeref01_Mul.l0 kq a1 (IntKind.u64.wrap (a1)) x8_1 x429000_1 x429001_1 x430000_1 x430001_1 = some (r1, r2)) ∧ Aside0 (kq ≤ k) ∧ Aside0 (w'.heap[gb425]? = some (.cells #[.int .i64 0, .int .u64 0] 112 (0, 0))) ∧ Aside0 (w'.heap[gb428]? = some (.cells #[.int .i64 x429000_1, .int .u64 x429001_1] 112 (0, 0))) ∧ Aside0 (w'.heap[gb429]? = some (.cells #[.int .i64 x430000_1, .int .u64 x430001_1] 112 (0, 0))) ∧ Aside0 (Below w.heap.size w w'))
 case atStart => exact ⟨(0), (t426), (t427), (0), (0), bs, H', ⟨Nat.le_refl _⟩, ⟨by (repeat ((with_reducible repeat (first | refine blk_drewN ?_ _ | refine blk_drew ?_ | refine blk_alloc ?_ _)); refine blk_far ?_ NB425_429.out _)); (with_reducible repeat (first | refine blk_drewN ?_ _ | refine blk_drew ?_ | refine blk_alloc ?_ _)); exact BK425.out⟩, ⟨by (repeat ((with_reducible repeat (first | refine blk_drewN ?_ _ | refine blk_drew ?_ | refine blk_alloc ?_ _)); refine blk_far ?_ NB428_429.out _)); (with_reducible repeat (first | refine blk_drewN ?_ _ | refine blk_drew ?_ | refine blk_alloc ?_ _)); exact BK428.out⟩, ⟨by (with_reducible repeat (first | refine blk_drewN ?_ _ | refine blk_drew ?_ | refine blk_alloc ?_ _)); refine blk_put (cs := #[.int .i64 0, .int .u64 0]) ?_ 1 _ rfl; (with_reducible repeat (first | refine blk_drewN ?_ _ | refine blk_drew ?_ | refine blk_alloc ?_ _)); refine blk_put (cs := #[.int .i64 0, .int .u64 0]) ?_ 0 _ rfl; (with_reducible repeat (first | refine blk_drewN ?_ _ | refine blk_drew ?_ | refine blk_alloc ?_ _)); exact BK429.out⟩, ⟨bX⟩⟩
 clear H'
 try clear c1
 try clear p2
 try clear c7
 try clear c8
 try clear c9
 try clear c10
 try clear c11
 try clear hcz12_0
 try clear hcz12_1
 try clear hcz8_0
 try clear hcz8_1
 try clear hfz12_0
 try clear hfz12_1
 try clear hfz8_0
 try clear hfz8_1
 obtain ⟨x8_1, x429000_1, x429001_1, x430000_1, x430001_1, rfl, HA, HK1, BK425, BK428, BK429, HB⟩ := hrel
 cases gk with
 | zero => exact absurd HA.out (by simp [apogeeref01_Mul.l0])
 | succ k1 =>
  have H := HA.out
  clear HA
  simp only [apogeeref01_Mul.l0] at H
  by_cases c13 : x8_1 < 64
  ·rw [if_pos c13] at H
   have c13b0 : decide (x8_1 < 64) = true := decide_eq_true c13
   clear c13
   by_cases c14 : 0 ≤ x8_1
   rw [if_pos c14] at H
   have c14b0 := eq_true c14
   have c14b1 : decide (0 ≤ x8_1) = true := decide_eq_true c14
   clear c14
   obtain ⟨ji15, hji15⟩ : ∃ j_ : Int, (shr .u64 (IntKind.u64.wrap (a1)) x8_1) = j_ := ⟨_, rfl⟩
   replace H : (if (Go.bits .and .u64 (ji15) 1) = 1 then ((apogeeref01_plus.f k1 x430000_1 x430001_1 x429000_1 x429001_1).bind fun bt430 => ((apogeeref01_plus.f k1 x429000_1 x429001_1 x429000_1 x429001_1).bind fun bt432 => (apogeeref01_Mul.l0 k1 a1 (IntKind.u64.wrap (a1)) (wrap64 (x8_1 + 1)) bt432.1 bt432.2 bt430.1 bt430.2))) else ((apogeeref01_plus.f k1 x429000_1 x429001_1 x429000_1 x429001_1).bind fun bt434 => (apogeeref01_Mul.l0 k1 a1 (IntKind.u64.wrap (a1)) (wrap64 (x8_1 + 1)) bt434.1 bt434.2 x430000_1 x430001_1))) = some (r1, r2) := by first | (rw [hji15] at H; exact H) | (simp only [hji15] at H ⊢; exact H)
   have hji15_ : ((IntKind.u64.wrap (a1)) / 2 ^ min x8_1.toNat 64) = ji15 := hji15
   have hji15z : x8_1 ≤ 64 → ((IntKind.u64.wrap (a1)) / 2 ^ x8_1.toNat) = ji15 := shr_small hji15
   by_cases c16 : (Go.bits .and .u64 (ji15) 1) = 1
   rw [if_pos c16] at H
   have c16b0 : ((Go.bits .and .u64 (ji15) 1) == 1) = true := beq_iff_eq.mpr c16
   have c16b1 : ((Go.bits .and .u64 (ji15) 1) != 1) = false := bne_eq_false_iff_eq.mpr c16
   clear c16
   replace H := Option.bind_eq_some_iff.mp H
   obtain ⟨⟨t430, t431⟩, A170, H⟩ := H
   replace H : ((apogeeref01_plus.f k1 x429000_1 x429001_1 x429000_1 x429001_1).bind fun bt432 => (apogeeref01_Mul.l0 k1 a1 (IntKind.u64.wrap (a1)) (wrap64 (x8_1 + 1)) bt432.1 bt432.2 t430 t431)) = some (r1, r2) := H
   have A17 := bA A170
   clear A170
   replace H := Option.bind_eq_some_iff.mp H
   obtain ⟨⟨t432, t433⟩, A180, H⟩ := H
   replace H : (apogeeref01_Mul.l0 k1 a1 (IntKind.u64.wrap (a1)) (wrap64 (x8_1 + 1)) t432 t433 t430 t431) = some (r1, r2) := H
   have A18 := bA A180
   clear A180
   have H' := bA H
   clear H
   have hnb19 := NB429_425.out
   have hnc19 := NB425_429.out
   have hnb20 := NB429_428.out
   have hnc20 := NB428_429.out
   obtain ⟨hcz21_0, hcz21_1, hfz21_0, hfz21_1⟩ := bc2 BK429
   have hnb22 := NB428_425.out
   have hnc22 := NB425_428.out
   obtain ⟨hcz23_0, hcz23_1, hfz23_0, hfz23_1⟩ := bc2 BK428
   rotate_left
   rw [if_neg c16] at H
   have c16b0 : ((Go.bits .and .u64 (ji15) 1) == 1) = false := beq_eq_false_iff_ne.mpr c16
   have c16b1 : ((Go.bits .and .u64 (ji15) 1) != 1) = true := bne_iff_ne.mpr c16
   replace H := Option.bind_eq_some_iff.mp H
   obtain ⟨⟨t434, t435⟩, A290, H⟩ := H
   replace H : (apogeeref01_Mul.l0 k1 a1 (IntKind.u64.wrap (a1)) (wrap64 (x8_1 + 1)) t434 t435 x430000_1 x430001_1) = some (r1, r2) := H
   have A29 := bA A290
   clear A290
   have H' := bA H
   clear H
   have hnb30 := NB428_425.out
   have hnc30 := NB425_428.out
   have hnb31 := NB428_429.out
   have hnc31 := NB429_428.out
   obtain ⟨hcz32_0, hcz32_1, hfz32_0, hfz32_1⟩ := bc2 BK428
   rotate_left
   rw [if_neg c14] at H
   exact absurd H (by simp)
   all_goals go_wp2_with (first | ((first | ((with_reducible refine gate_callee (f := 98) rfl ?_); refine bC (some 25) Try.func98 #[.agg #[.int .i64 x430000_1, .int .u64 x430001_1], .agg #[.int .i64 x429000_1, .int .u64 x429001_1]] ?_) | go_at_call 98); (with_reducible refine (apogeeref01_plus.calls k1 x430000_1 x430001_1 x429000_1 x429001_1 t430 t431 _ A17.out).mono ?_); rintro e wz0 ⟨rfl, hb⟩; (first | refine ⟨_, rfl, ?_⟩ | skip); replace BK425 := bA (bB BK425 hb); replace BK428 := bA (bB BK428 hb); replace BK429 := bA (bB BK429 hb); replace HB := bA (bS hb); (try clear hb); obtain ⟨hz1, hz2, hz3, hz4⟩ := bc2 BK429; obtain ⟨hz5, hz6, hz7, hz8⟩ := bc2 BK428) | ((first | ((with_reducible refine gate_callee (f := 98) rfl ?_); refine bC (some 28) Try.func98 #[.agg #[.int .i64 x429000_1, .int .u64 x429001_1], .agg #[.int .i64 x429000_1, .int .u64 x429001_1]] ?_) | go_at_call 98); (with_reducible refine (apogeeref01_plus.calls k1 x429000_1 x429001_1 x429000_1 x429001_1 t432 t433 _ A18.out).mono ?_); rintro e wz1 ⟨rfl, hb⟩; (first | refine ⟨_, rfl, ?_⟩ | skip); replace BK425 := bA (blk_below (g := gb425) (o := .cells #[.int .i64 0, .int .u64 0] 112 (0, 0)) (by (repeat ((with_reducible repeat (first | refine blk_drewN ?_ _ | refine blk_drew ?_ | refine blk_alloc ?_ _)); refine blk_far ?_ NB425_429.out _)); (with_reducible repeat (first | refine blk_drewN ?_ _ | refine blk_drew ?_ | refine blk_alloc ?_ _)); exact BK425.out) hb); replace BK428 := bA (blk_below (g := gb428) (o := .cells #[.int .i64 x429000_1, .int .u64 x429001_1] 112 (0, 0)) (by (repeat ((with_reducible repeat (first | refine blk_drewN ?_ _ | refine blk_drew ?_ | refine blk_alloc ?_ _)); refine blk_far ?_ NB428_429.out _)); (with_reducible repeat (first | refine blk_drewN ?_ _ | refine blk_drew ?_ | refine blk_alloc ?_ _)); exact BK428.out) hb); replace BK429 := bA (blk_below (g := gb429) (o := .cells #[.int .i64 t430, .int .u64 t431] 112 (0, 0)) (by (with_reducible repeat (first | refine blk_drewN ?_ _ | refine blk_drew ?_ | refine blk_alloc ?_ _)); refine blk_put (cs := #[.int .i64 t430, .int .u64 x430001_1]) ?_ 1 _ rfl; (with_reducible repeat (first | refine blk_drewN ?_ _ | refine blk_drew ?_ | refine blk_alloc ?_ _)); refine blk_put (cs := #[.int .i64 x430000_1, .int .u64 x430001_1]) ?_ 0 _ rfl; (with_reducible repeat (first | refine blk_drewN ?_ _ | refine blk_drew ?_ | refine blk_alloc ?_ _)); exact BK429.out) hb); replace HB := bA (bS hb); (try clear hb); obtain ⟨hz9, hz10, hz7, hz8⟩ := bc2 BK428) | ((first | ((with_reducible refine gate_callee (f := 98) rfl ?_); refine bC (some 28) Try.func98 #[.agg #[.int .i64 x429000_1, .int .u64 x429001_1], .agg #[.int .i64 x429000_1, .int .u64 x429001_1]] ?_) | go_at_call 98); (with_reducible refine (apogeeref01_plus.calls k1 x429000_1 x429001_1 x429000_1 x429001_1 t434 t435 _ A29.out).mono ?_); rintro e wz0 ⟨rfl, hb⟩; (first | refine ⟨_, rfl, ?_⟩ | skip); replace BK425 := bA (bB BK425 hb); replace BK428 := bA (bB BK428 hb); replace BK429 := bA (bB BK429 hb); replace HB := bA (bS hb); (try clear hb); obtain ⟨hz5, hz6, hz7, hz8⟩ := bc2 BK428))
   ·go_roundg k1
    case measure => have := HK1.out; omega
    case rel => exact ⟨(wrap64 (x8_1 + 1)), (t432), (t433), (t430), (t431), bs, H', ⟨by have := HK1.out; omega⟩, ⟨by (repeat ((with_reducible repeat (first | refine blk_drewN ?_ _ | refine blk_drew ?_ | refine blk_alloc ?_ _)); refine blk_far ?_ NB425_428.out _)); (with_reducible repeat (first | refine blk_drewN ?_ _ | refine blk_drew ?_ | refine blk_alloc ?_ _)); exact BK425.out⟩, ⟨by (with_reducible repeat (first | refine blk_drewN ?_ _ | refine blk_drew ?_ | refine blk_alloc ?_ _)); refine blk_put (cs := #[.int .i64 t432, .int .u64 x429001_1]) ?_ 1 _ rfl; (with_reducible repeat (first | refine blk_drewN ?_ _ | refine blk_drew ?_ | refine blk_alloc ?_ _)); refine blk_put (cs := #[.int .i64 x429000_1, .int .u64 x429001_1]) ?_ 0 _ rfl; (with_reducible repeat (first | refine blk_drewN ?_ _ | refine blk_drew ?_ | refine blk_alloc ?_ _)); exact BK428.out⟩, ⟨by (repeat ((with_reducible repeat (first | refine blk_drewN ?_ _ | refine blk_drew ?_ | refine blk_alloc ?_ _)); refine blk_far ?_ NB429_428.out _)); (with_reducible repeat (first | refine blk_drewN ?_ _ | refine blk_drew ?_ | refine blk_alloc ?_ _)); exact BK429.out⟩, ⟨bX⟩⟩
   go_roundg k1
   case measure => have := HK1.out; omega
   case rel => exact ⟨(wrap64 (x8_1 + 1)), (t434), (t435), (x430000_1), (x430001_1), bs, H', ⟨by have := HK1.out; omega⟩, ⟨by (repeat ((with_reducible repeat (first | refine blk_drewN ?_ _ | refine blk_drew ?_ | refine blk_alloc ?_ _)); refine blk_far ?_ NB425_428.out _)); (with_reducible repeat (first | refine blk_drewN ?_ _ | refine blk_drew ?_ | refine blk_alloc ?_ _)); exact BK425.out⟩, ⟨by (with_reducible repeat (first | refine blk_drewN ?_ _ | refine blk_drew ?_ | refine blk_alloc ?_ _)); refine blk_put (cs := #[.int .i64 t434, .int .u64 x429001_1]) ?_ 1 _ rfl; (with_reducible repeat (first | refine blk_drewN ?_ _ | refine blk_drew ?_ | refine blk_alloc ?_ _)); refine blk_put (cs := #[.int .i64 x429000_1, .int .u64 x429001_1]) ?_ 0 _ rfl; (with_reducible repeat (first | refine blk_drewN ?_ _ | refine blk_drew ?_ | refine blk_alloc ?_ _)); exact BK428.out⟩, ⟨by (repeat ((with_reducible repeat (first | refine blk_drewN ?_ _ | refine blk_drew ?_ | refine blk_alloc ?_ _)); refine blk_far ?_ NB429_428.out _)); (with_reducible repeat (first | refine blk_drewN ?_ _ | refine blk_drew ?_ | refine blk_alloc ?_ _)); exact BK429.out⟩, ⟨bX⟩⟩
  rw [if_neg c13] at H
  have c13b0 : decide (x8_1 < 64) = false := decide_eq_false c13
  clear c13
  by_cases c35 : a1 < 0
  rotate_left
  ·rw [if_neg c35] at H
   have c35b0 : decide (a1 < 0) = false := decide_eq_false c35
   clear c35
   simp only [Option.some.injEq, Prod.mk.injEq] at H
   obtain ⟨rfl, rfl⟩ := H
   have hnb48 := NB429_425.out
   have hnc48 := NB425_429.out
   have hnb49 := NB429_428.out
   have hnc49 := NB428_429.out
   obtain ⟨hcz50_0, hcz50_1, hfz50_0, hfz50_1⟩ := bc2 BK429
   have hnb51 := NB425_428.out
   have hnc51 := NB428_425.out
   obtain ⟨hcz52_0, hcz52_1, hfz52_0, hfz52_1⟩ := bc2 BK425
   go_wp2
   refine bodyPost_ret (results_cell_row rfl _ _ gb425 112 #[.int .i64 x430000_1, .int .u64 x430001_1] (0, 0) _ rfl (by (with_reducible repeat (first | refine blk_drewN ?_ _ | refine blk_drew ?_ | refine blk_alloc ?_ _)); refine blk_put (cs := #[.int .i64 x430000_1, .int .u64 0]) ?_ 1 _ rfl; (with_reducible repeat (first | refine blk_drewN ?_ _ | refine blk_drew ?_ | refine blk_alloc ?_ _)); refine blk_put (cs := #[.int .i64 0, .int .u64 0]) ?_ 0 _ rfl; (with_reducible repeat (first | refine blk_drewN ?_ _ | refine blk_drew ?_ | refine blk_alloc ?_ _)); exact BK425.out) Try.underlying112 rfl (by kernel_rfl)) rfl ?_
   exact bF
  rw [if_pos c35] at H
  have c35b0 : decide (a1 < 0) = true := decide_eq_true c35
  clear c35
  replace H := Option.bind_eq_some_iff.mp H
  obtain ⟨⟨t436, t437⟩, A360, H⟩ := H
  replace H : ((apogeeref01_plus.f k1 x430000_1 x430001_1 t436 t437).bind fun bt438 => (some (bt438.1, bt438.2))) = some (r1, r2) := H
  have A36 := bA A360
  clear A360
  replace H := Option.bind_eq_some_iff.mp H
  obtain ⟨⟨t438, t439⟩, A370, H⟩ := H
  replace H : (some (t438, t439)) = some (r1, r2) := H
  have A37 := bA A370
  clear A370
  simp only [Option.some.injEq, Prod.mk.injEq] at H
  obtain ⟨rfl, rfl⟩ := H
  try go_wp2
  replace BK425 := bA (blk_drew BK425.out)
  replace BK428 := bA (blk_drew BK428.out)
  replace BK429 := bA (blk_drew BK429.out)
  replace HB := bA (below_drew1 HB.out)
  refine start_ (n := 5) (S := fun w' => w'.cell? ⟨gb429, 0, none⟩ = some (.int .i64 x430000_1) ∧ w'.cell? ⟨gb429, 1, none⟩ = some (.int .u64 x430001_1) ∧ w'.cell? ⟨gb428, 0, none⟩ = some (.int .i64 x429000_1) ∧ w'.cell? ⟨gb428, 1, none⟩ = some (.int .u64 x429001_1)) (ds := [4]) #[false, false, false, false, false] (by kernel_rfl) rfl rfl ⟨bq BK429 0, bq BK429 1, bq BK428 0, bq BK428 1⟩ (fun hHeld => ?_)
  generalize wr.drew = w38 at BK425 BK428 BK429 HB hHeld ⊢
  refine take_ (i := 0) (N := some 31) (v := ?_) (a' := ?_) #[true, false, false, false, false] rfl rfl (by kernel_rfl) (fun _ _ _ h => h) (Or.inl ⟨by rfl, ?_⟩) hHeld ?_ ?_
  rotate_left
  ·rintro w' ⟨s0, s1, s2, s3⟩
   go_simp
   with_reducible rfl
  rotate_left
  ·simp only [Act.put, List.setIfInBounds_toArray, List.set_cons_zero, List.set_cons_succ, i64_w, i32_w]
   rfl
  refine take_ (i := 1) (N := some 32) (v := ?_) (a' := ?_) #[true, true, false, false, false] rfl rfl (by kernel_rfl) (fun _ _ _ h => h) (Or.inl ⟨by rfl, ?_⟩) hHeld ?_ ?_
  rotate_left
  ·rintro w' ⟨s0, s1, s2, s3⟩
   go_simp
   with_reducible rfl
  rotate_left
  ·simp only [Act.put, List.setIfInBounds_toArray, List.set_cons_zero, List.set_cons_succ, i64_w, i32_w]
   rfl
  refine one_ (i := 2) (N := some 33) #[true, true, true, false, false] rfl rfl (by kernel_rfl) (by decide) (fun K hK => ?_)
  refine goes_ Try.func99 (by kernel_rfl) rfl #[.agg #[.int .i64 x429000_1, .int .u64 x429001_1]] (by rfl) rfl rfl (by (try simp only [List.map_toArray, List.map_cons, List.map_nil]); first | done | rfl | (simp only [List.length_drop, List.length_take]; rfl)) ?_
  with_reducible refine (apogeeref01_Flip.calls k1 x429000_1 x429001_1 t436 t437 _ A36.out).mono ?_
  rintro e w39 ⟨rfl, hb⟩
  refine ⟨_, rfl, ?_⟩
  replace BK425 := bA (bB BK425 hb)
  replace BK428 := bA (bB BK428 hb)
  replace BK429 := bA (bB BK429 hb)
  replace HB := bA (bS hb)
  (try clear hb)
  refine hK.out _ _ ⟨bq BK429 0, bq BK429 1, bq BK428 0, bq BK428 1⟩ (fun hHeld => ?_)
  clear hK K
  refine bI 33 ?_
  refine one_ (i := 3) (N := some 34) #[true, true, true, true, false] rfl rfl (by kernel_rfl) (by decide) (fun K hK => ?_)
  refine goes_ Try.func98 (by kernel_rfl) rfl #[.agg #[.int .i64 x430000_1, .int .u64 x430001_1], .agg #[.int .i64 t436, .int .u64 t437]] (by rfl) rfl rfl (by (try simp only [List.map_toArray, List.map_cons, List.map_nil]); first | done | rfl | (simp only [List.length_drop, List.length_take]; rfl)) ?_
  with_reducible refine (apogeeref01_plus.calls k1 x430000_1 x430001_1 t436 t437 t438 t439 _ A37.out).mono ?_
  rintro e w40 ⟨rfl, hb⟩
  refine ⟨_, rfl, ?_⟩
  replace BK425 := bA (bB BK425 hb)
  replace BK428 := bA (bB BK428 hb)
  replace BK429 := bA (bB BK429 hb)
  replace HB := bA (bS hb)
  (try clear hb)
  refine hK.out _ _ ⟨bq BK429 0, bq BK429 1, bq BK428 0, bq BK428 1⟩ (fun hHeld => ?_)
  clear hK K
  refine bI 34 ?_
  refine last_ (i := 4) (N := none) #[true, true, true, true, true] rfl rfl (by kernel_rfl) (by decide) (fun K hK => ?_)
  have hs41 : w40.cell? ⟨gb429, 0, none⟩ = some (.int .i64 x430000_1) := bq BK429 0
  have hfs41 := blk_frozen BK429.out 0
  have hns41_0 := NB425_429.out
  have hns41_1 := NB428_429.out
  have hms41_0 := NB429_425.out
  have hms41_1 := NB429_428.out
  have hs42 : w40.cell? ⟨gb429, 1, none⟩ = some (.int .u64 x430001_1) := bq BK429 1
  have hfs42 := blk_frozen BK429.out 1
  have hns42_0 := NB425_429.out
  have hns42_1 := NB428_429.out
  have hms42_0 := NB429_425.out
  have hms42_1 := NB429_428.out
  refine skip_ (w1 := ?_) (by rfl) rfl ?_ ?_
  rotate_left
  ·go_simp
   rfl
  refine hK.out _ _ ?_
  clear hK K
  refine done_ (by kernel_rfl) ?_
  have hnb43 := NB429_425.out
  have hnc43 := NB425_429.out
  have hnb44 := NB429_428.out
  have hnc44 := NB428_429.out
  obtain ⟨hcz45_0, hcz45_1, hfz45_0, hfz45_1⟩ := bc2 BK429
  have hnb46 := NB425_428.out
  have hnc46 := NB428_425.out
  obtain ⟨hcz47_0, hcz47_1, hfz47_0, hfz47_1⟩ := bc2 BK425
  try go_wp2
  refine bodyPost_ret (results_cell_row rfl _ _ gb425 112 #[.int .i64 t438, .int .u64 t439] (0, 0) _ rfl (by (with_reducible repeat (first | refine blk_drewN ?_ _ | refine blk_drew ?_ | refine blk_alloc ?_ _)); refine blk_put (cs := #[.int .i64 t438, .int .u64 0]) ?_ 1 _ rfl; (with_reducible repeat (first | refine blk_drewN ?_ _ | refine blk_drew ?_ | refine blk_alloc ?_ _)); refine blk_put (cs := #[.int .i64 0, .int .u64 0]) ?_ 0 _ rfl; (repeat ((with_reducible repeat (first | refine blk_drewN ?_ _ | refine blk_drew ?_ | refine blk_alloc ?_ _)); refine blk_far ?_ NB425_429.out _)); (with_reducible repeat (first | refine blk_drewN ?_ _ | refine blk_drew ?_ | refine blk_alloc ?_ _)); exact BK425.out) Try.underlying112 rfl (by kernel_rfl)) rfl ?_
  exact bF
end Go.Proofs.Ytfeekdoakoabeaa.G
