-- Written by a program of this session out of the translation; Lean checks it.
import Derived.Test.YtjmibjmlihmglaaGx0
import Derived.Test.YtjmibjmlihmglaaGx4
namespace Go.Proofs.Ytjmibjmlihmglaa.G
open Go.RowKit Go.Proofs.YtjmibjmlihmglaaW.PrintWords Go.Proofs.YtjmibjmlihmglaaW.PrintLast Go.Proofs.YtjmibjmlihmglaaW.PrintMore
attribute [local go_sem] max2_int min2_int max_two min_two max_three min_three max_four min_four   -- for this text's walks alone
set_option linter.unusedVariables false
set_option linter.unusedSimpArgs false

/-! ### cmp_Or_int: function 115 -/
def cmp_Or_int.l0 : Nat → Int → List Int → Int → Int → Option (Int)
 | 0, _, _, _, _ => none
 | k + 1, x3, x6, x7, x8 => if x8 < x7 then (if 0 ≤ x8 then (if x8 < (x6.length : Int) then (if (rd x6 x8) = x3 then (cmp_Or_int.l0 k x3 x6 x7 (wrap64 (x8 + 1))) else (some (rd x6 x8))) else (none)) else (none)) else (some x3)
def cmp_Or_int.f (k : Nat) (l0 : List Int) : Option (Int) := cmp_Or_int.l0 k 0 l0 (l0.length : Int) 0
theorem cmp_Or_int.mono_l : ∀ k, (∀ y0 y1 y2 y3, LeO (cmp_Or_int.l0 k y0 y1 y2 y3) (cmp_Or_int.l0 (k + 1) y0 y1 y2 y3))
 | 0 => fun _ _ _ _ r h => by simp [cmp_Or_int.l0] at h
 | k + 1 => by
  have ih0 := cmp_Or_int.mono_l k
  ·intro y0 y1 y2 y3
   unfold cmp_Or_int.l0
   exact bMo
theorem cmp_Or_int.mono : ∀ a0 k, LeO (cmp_Or_int.f k a0) (cmp_Or_int.f (k + 1) a0) := by
 intro a0 k
 have ih0 := cmp_Or_int.mono_l k
 unfold cmp_Or_int.f
 exact bMo
set_option maxHeartbeats 8000000 in
set_option maxRecDepth 100000 in
theorem cmp_Or_int.calls (k : Nat) (A0 : Option Addr) (c0 : Nat) (l0 : List Int) (r : Int) (w : World) (hr0 : Kd.C (Kd.int .i64) w A0 l0.length l0) (hc0 : l0.length ≤ c0) (h : cmp_Or_int.f k l0 = some r) :
  Calls Try.prog 115 #[.slice A0 l0.length c0] w fun e w' => e = .returned (.int .i64 r) ∧ Drawn0 w w' := by
 have HR0 := bA hr0
 have HC0 := bA hc0
 clear hr0 hc0
 have H : (cmp_Or_int.l0 k 0 l0 (l0.length : Int) 0) = some r := h
 clear h
 have H' := bA H
 clear H
 go_enter Try.func115, Try.ntmps115
 go_wp2
 go_loopg [8] k (fun kq v8 w' => ∃ (x8_1 : Int), v8 = .int .i64 x8_1 ∧ Aside0 (cmp_Or_int.l0 kq 0 l0 (l0.length : Int) x8_1 = some r) ∧ Aside0 (kq ≤ k) ∧ Drawn0 w w')
 case atStart => exact ⟨(0), bs, H', ⟨Nat.le_refl _⟩, by repeat (first | exact Drawn0.refl _ | apply Drawn0.step)⟩
 clear H'
 try clear c1
 obtain ⟨x8_1, rfl, HA, HK1, ⟨m1, rfl⟩⟩ := hrel
 cases gk with
 | zero => exact absurd HA.out (by simp [cmp_Or_int.l0])
 | succ k1 =>
  have H := HA.out
  clear HA
  simp only [cmp_Or_int.l0] at H
  by_cases c2 : x8_1 < (l0.length : Int)
  rw [if_pos c2] at H
  have c2b0 : decide (x8_1 < (l0.length : Int)) = true := decide_eq_true c2
  clear c2
  by_cases c3 : 0 ≤ x8_1
  rw [if_pos c3] at H
  have c3b0 : decide (0 ≤ x8_1) = true := decide_eq_true c3
  clear c3
  by_cases c4 : x8_1 < (l0.length : Int)
  rw [if_pos c4] at H
  have c4b0 : decide (x8_1 < (l0.length : Int)) = true := decide_eq_true c4
  clear c4
  by_cases c5 : (rd l0 x8_1) = 0
  rw [if_pos c5] at H
  have c5b0 : ((rd l0 x8_1) == 0) = true := beq_iff_eq.mpr c5
  have c5b1 : ((rd l0 x8_1) != 0) = false := bne_eq_false_iff_eq.mpr c5
  clear c5
  have H' := bA H
  clear H
  have p162 : 0 ≤ (x8_1 : Int) := bo
  have q162 : x8_1 < (l0.length : Int) := bo
  obtain ⟨ad162, e162, hx162_0⟩ := Kd.at_int HR0.out x8_1 p162 q162
  cases e162
  replace p162 := eq_true p162
  replace q162 := eq_true q162
  rotate_left
  rw [if_neg c5] at H
  have c5b0 : ((rd l0 x8_1) == 0) = false := beq_eq_false_iff_ne.mpr c5
  have c5b1 : ((rd l0 x8_1) != 0) = true := bne_iff_ne.mpr c5
  obtain rfl := Option.some.inj H
  have p162 : 0 ≤ (x8_1 : Int) := bo
  have q162 : x8_1 < (l0.length : Int) := bo
  obtain ⟨ad162, e162, hx162_0⟩ := Kd.at_int HR0.out x8_1 p162 q162
  cases e162
  replace p162 := eq_true p162
  replace q162 := eq_true q162
  rotate_left
  rw [if_neg c4] at H
  exact absurd H (by simp)
  rw [if_neg c3] at H
  exact absurd H (by simp)
  rw [if_neg c2] at H
  have c2b0 : decide (x8_1 < (l0.length : Int)) = false := decide_eq_false c2
  clear c2
  obtain rfl := Option.some.inj H
  rotate_left
  all_goals go_wp2
  ·go_roundg k1
   case measure => have := HK1.out; omega
   case rel => exact ⟨(wrap64 (x8_1 + 1)), bs, H', ⟨by have := HK1.out; omega⟩, by repeat (first | exact Drawn0.refl _ | apply Drawn0.step)⟩
  ·go_ret
   exact bD
  go_ret
  exact bD
/-! ### wide_Wide_Cmp: function 104 -/
def wide_Wide_Cmp.f (k : Nat) (a0_0 : Int) (a0_1 : Int) (a1_0 : Int) (a1_1 : Int) : Option (Int) := (cmp_Compare_int64.f a0_0 a1_0).bind fun t165 => ((cmp_Compare_uint64.f a0_1 a1_1).bind fun t166 => ((cmp_Or_int.f k (([t165, t166] : List Int))).bind fun t170 => (some t170)))
theorem wide_Wide_Cmp.mono : ∀ a0 a1 a2 a3 k, LeO (wide_Wide_Cmp.f k a0 a1 a2 a3) (wide_Wide_Cmp.f (k + 1) a0 a1 a2 a3) := by
 intro a0 a1 a2 a3 k
 unfold wide_Wide_Cmp.f
 have m0_ := @cmp_Or_int.mono
 exact bMo
def wide_Wide_Cmp.T1 : Bool × List (List Nat × List Nat) := (true, [([], []), ([0], [0]), ([], []), ([2], [2]), ([1, 3], [1, 3]), ([], []), ([5], [5]), ([], []), ([7], [7]), ([6, 8, 4], [6, 8]), ([4, 9], [4, 9]), ([10, 9], [10]), ([11, 11, 0, 1, 2, 3, 4, 5, 6, 7, 8, 9, 10, 11], [11])])
def wide_Wide_Cmp.B1 : List Nat := [0, 1, 0, 4, 15, 0, 32, 0, 128, 511, 1023, 2047, 4095]
theorem wide_Wide_Cmp.tab1 : rtab .any (opsOf Try.f104 1) = wide_Wide_Cmp.T1 := by kernel_rfl
theorem wide_Wide_Cmp.bits1 : waitsOk wide_Wide_Cmp.T1.2 wide_Wide_Cmp.B1 = true := by kernel_rfl
set_option maxHeartbeats 8000000 in
set_option maxRecDepth 100000 in
theorem wide_Wide_Cmp.calls (k : Nat) (a0_0 : Int) (a0_1 : Int) (a1_0 : Int) (a1_1 : Int) (r : Int) (w : World) (h : wide_Wide_Cmp.f k a0_0 a0_1 a1_0 a1_1 = some r) :
  Calls Try.prog 104 #[.agg #[.int .i64 a0_0, .int .u64 a0_1], .agg #[.int .i64 a1_0, .int .u64 a1_1]] w fun e w' => e = .returned (.int .i64 r) ∧ Below w.heap.size w w' := by
 have hu85 := Try.underlying85
 have HB := bA (Below.refl w.heap.size w)
 have H : ((cmp_Compare_int64.f a0_0 a1_0).bind fun t165 => ((cmp_Compare_uint64.f a0_1 a1_1).bind fun t166 => ((cmp_Or_int.f k (([t165, t166] : List Int))).bind fun t170 => (some t170)))) = some r := h
 clear h
 replace H := Option.bind_eq_some_iff.mp H
 obtain ⟨t165, A30, H⟩ := H
 have A3 := bA A30
 clear A30
 replace H := Option.bind_eq_some_iff.mp H
 obtain ⟨t166, A40, H⟩ := H
 have A4 := bA A40
 clear A40
 obtain ⟨y167, hy167⟩ : ∃ y_ : List Int, y_ = (([t165, t166] : List Int)) := ⟨_, rfl⟩
 replace H : ((cmp_Or_int.f k y167).bind fun t170 => (some t170)) = some r := by first | (rw [hy167]; with_reducible exact H) | (have H2_ := (Option.bind_some _ _).symm.trans H; rw [hy167]; with_reducible exact H2_) | (have H2_ := (Option.bind_some _ _).symm.trans H; with_reducible exact H2_) | with_reducible exact H | (rw [hy167]; exact H) | exact H
 have Ny167 := bA hy167
 clear hy167
 replace H := Option.bind_eq_some_iff.mp H
 obtain ⟨t170, A50, H⟩ := H
 have A5 := bA A50
 clear A50
 obtain rfl := Option.some.inj H
 go_enter Try.func104, Try.ntmps104
 try go_wp2_with (first | ((with_reducible refine gate_dst (N := 2) rfl ?_); refine bE (N := 2) (cs := #[.int .i64 a0_0, .int .u64 a0_1]) (t := 85) ?_; intro gb163 hg w6 hbox hb; have BK163 := bA (hbox); have GW163 := bA (bZ hg); have GE163 := bA (bZ hg); replace HB := bA (bS hb); clear hb hbox hg) | ((with_reducible refine gate_dst (N := 3) rfl ?_); refine bE (N := 3) (cs := #[.int .i64 a1_0, .int .u64 a1_1]) (t := 85) ?_; intro gb164 hg w7 hbox hb; have BK164 := bA (hbox); have GW164 := bA (bZ hg); have GE164 := bA (bZ hg); have NB163_164 := bA (bL BK163 hg); have NB164_163 := bA (bG BK163 hg); replace BK163 := bA (bB BK163 hb); replace HB := bA (bS hb); clear hb hbox hg))
 replace BK163 := bA (blk_drew BK163.out)
 replace BK164 := bA (blk_drew BK164.out)
 replace HB := bA (below_drew1 HB.out)
 refine start_ (n := 13) (S := fun w' => w'.cell? ⟨gb163, 0, none⟩ = some (.int .i64 a0_0) ∧ w'.cell? ⟨gb163, 1, none⟩ = some (.int .u64 a0_1) ∧ w'.cell? ⟨gb164, 0, none⟩ = some (.int .i64 a1_0) ∧ w'.cell? ⟨gb164, 1, none⟩ = some (.int .u64 a1_1)) (ds := []) #[false,false,false,false,false,false,false,false,false,false,false,false,false] (by kernel_rfl) rfl rfl ⟨bq BK163 0, bq BK163 1, bq BK164 0, bq BK164 1⟩ (fun hHeld => ?_); refine with_tabW wide_Wide_Cmp.tab1 wide_Wide_Cmp.bits1 (fun HT_ HW_ => ?_)
 generalize w7.drew = w8 at BK163 BK164 HB hHeld ⊢
 refine bU (i := 0) (N := some 5) ?_
 refine bU (i := 2) (N := some 7) ?_
 refine bU (i := 5) (N := some 10) ?_
 refine bU (i := 7) (N := some 12) ?_
 refine bW (i := 1) (N := some 6) hHeld ?_
 refine bW (i := 3) (N := some 8) hHeld ?_
 refine bW (i := 6) (N := some 11) hHeld ?_
 refine bW (i := 8) (N := some 13) hHeld ?_
 refine one_ (i := 4) (N := some 9) #[true,true,true,true,true,true,true,true,true,false,false,false,false] rfl rfl (one_of HT_.out (by kernel_rfl)) (by decide) (fun K hK => ?_)
 refine goes_ Try.func116 (by kernel_rfl) rfl #[.int .i64 a0_0, .int .i64 a1_0] (by rfl) rfl rfl (by (try simp only [List.map_toArray, List.map_cons, List.map_nil]); first | done | rfl | (simp only [List.length_drop, List.length_take]; rfl)) ?_
 with_reducible refine (cmp_Compare_int64.calls a0_0 a1_0 t165 _ A3.out).mono ?_
 rintro e w' ⟨rfl, ⟨nd, rfl⟩⟩
 refine ⟨_, rfl, ?_⟩
 refine hK.out _ _ ⟨bq BK163 0, bq BK163 1, bq BK164 0, bq BK164 1⟩ (fun hHeld => ?_)
 clear hK K
 refine bI 9 ?_
 refine one_ (i := 9) (N := some 14) #[true,true,true,true,true,true,true,true,true,true,false,false,false] rfl rfl (one_of HT_.out (by kernel_rfl)) (by decide) (fun K hK => ?_)
 refine goes_ Try.func117 (by kernel_rfl) rfl #[.int .u64 a0_1, .int .u64 a1_1] (by rfl) rfl rfl (by (try simp only [List.map_toArray, List.map_cons, List.map_nil]); first | done | rfl | (simp only [List.length_drop, List.length_take]; rfl)) ?_
 with_reducible refine (cmp_Compare_uint64.calls a0_1 a1_1 t166 _ A4.out).mono ?_
 rintro e w' ⟨rfl, ⟨nd, rfl⟩⟩
 refine ⟨_, rfl, ?_⟩
 refine hK.out _ _ ⟨bq BK163 0, bq BK163 1, bq BK164 0, bq BK164 1⟩ (fun hHeld => ?_)
 clear hK K
 refine bI 14 ?_
 refine one_ (i := 10) (N := some 15) #[true,true,true,true,true,true,true,true,true,true,true,false,false] rfl rfl (one_of HT_.out (by kernel_rfl)) (by decide) (fun K hK => ?_)
 refine Kd.R_lit_step (Kd.int .i64) _ 3 ?hg (N := 15) ?hd (xs := ([t165, t166] : List Int)) (inner := [.int .i64 t165, .int .i64 t166]) (ok := fun _ => True) (okp := fun _ => True) ?hr ?hp (fun _ hk => hk) trivial (Below.refl _ _) (Nat.le_refl _) (by simp) ?_; (case hd => rfl); (case hg => rfl); (case hr => first | (go_simp; done) | (go_simp; rfl)); (case hp => exact (Reps.one (show Kd.M (Kd.int .i64) _ _ _ t165 [.int .i64 t165] from rfl) (Reps.one (show Kd.M (Kd.int .i64) _ _ _ t166 [.int .i64 t166] from rfl) (Reps.none _ _))))
 intro v168 w9 ho10 hb hg_ hnew_
 clear hg_ hnew_
 (first | rw [← Ny167.out] at ho10 | (simp only [Int.reduceToNat] at ho10; rw [← Ny167.out] at ho10))
 have HO169 := bA (Kd.R_lower ho10 bY)
 replace BK163 := bA (bB BK163 hb)
 replace BK164 := bA (bB BK164 hb)
 replace HB := bA (bS hb)
 clear hb ho10
 obtain ⟨Ao11, co11, eo11⟩ := Kd.R_slice HO169.out
 (first | subst eo11 | (injection eo11 with f1_ f2_ f3_; have f4_ := f1_.symm; have f5_ := f3_.symm; clear f1_ f2_ f3_; subst f4_; subst f5_))
 refine hK.out _ _ ⟨bq BK163 0, bq BK163 1, bq BK164 0, bq BK164 1⟩ (fun hHeld => ?_)
 clear hK K
 refine bI 15 ?_
 refine one_ (i := 11) (N := some 16) #[true,true,true,true,true,true,true,true,true,true,true,true,false] rfl rfl (one_of HT_.out (by kernel_rfl)) (by decide) (fun K hK => ?_)
 refine goes_ Try.func115 (by kernel_rfl) rfl #[.slice Ao11 y167.length co11] (by rfl) rfl rfl (by (try simp only [List.map_toArray, List.map_cons, List.map_nil]); first | done | rfl | (simp only [List.length_drop, List.length_take]; rfl)) ?_
 with_reducible refine (cmp_Or_int.calls k _ _ y167 t170 _ ?side1 ?side2 A5.out).mono ?_
 (case side1 => repeat (first | exact (Kd.R_reads' HO169.out).2.2 | (with_reducible refine Kd.C_alloc ?_ _) | (with_reducible refine Kd.C_drewN ?_ _) | (with_reducible refine Kd.C_drew ?_)))
 (case side2 => exact (Kd.R_reads' HO169.out).2.1)
 rintro e w' ⟨rfl, ⟨nd, rfl⟩⟩
 refine ⟨_, rfl, ?_⟩
 refine hK.out _ _ ⟨bq BK163 0, bq BK163 1, bq BK164 0, bq BK164 1⟩ (fun hHeld => ?_)
 clear hK K
 refine bI 16 ?_
 refine bU (i := 12) (N := some 4) ?_
 refine done_ (done_of HT_.out (by kernel_rfl)) ?_
 try go_wp2
 go_ret
 exact bF
/-! ### point_Turn: function 74 -/
def point_Turn.f (k : Nat) (a0_0 : Int) (a0_1 : Int) (a1_0 : Int) (a1_1 : Int) (a2_0 : Int) (a2_1 : Int) : Option (Int) := (point_right.f k (([(⟨a0_0, a0_1⟩ : S41), (⟨a1_0, a1_1⟩ : S41), (⟨a2_0, a2_1⟩ : S41)] : List (S41)))).bind fun t177 => (if t177 = true then ((wide_Mul.f (wrap64 (a1_0 - a0_0)) (wrap64 (a2_1 - a0_1))).bind fun bt178 => ((wide_Mul.f (wrap64 (a1_1 - a0_1)) (wrap64 (a2_0 - a0_0))).bind fun bt180 => ((wide_Wide_Cmp.f k bt178.1 bt178.2 bt180.1 bt180.2).bind fun t182 => (some t182)))) else (some 0))
theorem point_Turn.mono : ∀ a0 a1 a2 a3 a4 a5 k, LeO (point_Turn.f k a0 a1 a2 a3 a4 a5) (point_Turn.f (k + 1) a0 a1 a2 a3 a4 a5) := by
 intro a0 a1 a2 a3 a4 a5 k
 unfold point_Turn.f
 have m0_ := @point_right.mono
 have m1_ := @wide_Wide_Cmp.mono
 exact bMo
def point_Turn.T3 : Bool × List (List Nat × List Nat) := (true, [([], []), ([0], [0]), ([], []), ([2], [2]), ([1, 3], [1, 3]), ([], []), ([5], [5]), ([], []), ([7], [7]), ([6, 8], [6, 8]), ([4, 9], [4, 9]), ([], []), ([11], [11]), ([], []), ([13], [13]), ([12, 14], [12, 14]), ([], []), ([16], [16]), ([], []), ([18], [18]), ([17, 19], [17, 19]), ([15, 20, 10], [15, 20]), ([10, 21, 21], [10, 21]), ([22, 22, 0, 1, 2, 3, 4, 5, 6, 7, 8, 9, 10, 11, 12, 13, 14, 15, 16, 17, 18, 19, 20, 21, 22], [22])])
def point_Turn.B3 : List Nat := [0, 1, 0, 4, 15, 0, 32, 0, 128, 480, 1023, 0, 2048, 0, 8192, 30720, 0, 65536, 0, 262144, 983040, 2097151, 4194303, 8388607]
theorem point_Turn.tab3 : rtab .any (opsOf Try.f74 3) = point_Turn.T3 := by kernel_rfl
theorem point_Turn.bits3 : waitsOk point_Turn.T3.2 point_Turn.B3 = true := by kernel_rfl
set_option maxHeartbeats 8000000 in
set_option maxRecDepth 100000 in
theorem point_Turn.calls (k : Nat) (a0_0 : Int) (a0_1 : Int) (a1_0 : Int) (a1_1 : Int) (a2_0 : Int) (a2_1 : Int) (r : Int) (w : World) (h : point_Turn.f k a0_0 a0_1 a1_0 a1_1 a2_0 a2_1 = some r) :
  Calls Try.prog 74 #[.agg #[.int .i64 a0_0, .int .i64 a0_1], .agg #[.int .i64 a1_0, .int .i64 a1_1], .agg #[.int .i64 a2_0, .int .i64 a2_1]] w fun e w' => e = .returned (.int .i64 r) ∧ Below w.heap.size w w' := by
 have hu41 := Try.underlying41
 have HB := bA (Below.refl w.heap.size w)
 have H : ((point_right.f k (([(⟨a0_0, a0_1⟩ : S41), (⟨a1_0, a1_1⟩ : S41), (⟨a2_0, a2_1⟩ : S41)] : List (S41)))).bind fun t177 => (if t177 = true then ((wide_Mul.f (wrap64 (a1_0 - a0_0)) (wrap64 (a2_1 - a0_1))).bind fun bt178 => ((wide_Mul.f (wrap64 (a1_1 - a0_1)) (wrap64 (a2_0 - a0_0))).bind fun bt180 => ((wide_Wide_Cmp.f k bt178.1 bt178.2 bt180.1 bt180.2).bind fun t182 => (some t182)))) else (some 0))) = some r := h
 clear h
 obtain ⟨y174, hy174⟩ : ∃ y_ : List (S41), y_ = (([(⟨a0_0, a0_1⟩ : S41), (⟨a1_0, a1_1⟩ : S41), (⟨a2_0, a2_1⟩ : S41)] : List (S41))) := ⟨_, rfl⟩
 replace H : ((point_right.f k y174).bind fun t177 => (if t177 = true then ((wide_Mul.f (wrap64 (a1_0 - a0_0)) (wrap64 (a2_1 - a0_1))).bind fun bt178 => ((wide_Mul.f (wrap64 (a1_1 - a0_1)) (wrap64 (a2_0 - a0_0))).bind fun bt180 => ((wide_Wide_Cmp.f k bt178.1 bt178.2 bt180.1 bt180.2).bind fun t182 => (some t182)))) else (some 0))) = some r := by first | (rw [hy174]; with_reducible exact H) | (have H2_ := (Option.bind_some _ _).symm.trans H; rw [hy174]; with_reducible exact H2_) | (have H2_ := (Option.bind_some _ _).symm.trans H; with_reducible exact H2_) | with_reducible exact H | (rw [hy174]; exact H) | exact H
 have Ny174 := bA hy174
 clear hy174
 replace H := Option.bind_eq_some_iff.mp H
 obtain ⟨t177, A40, H⟩ := H
 have A4 := bA A40
 clear A40
 by_cases c5 : t177 = true
 rotate_left
 ·replace c5 := Bool.eq_false_iff.mpr c5
  subst c5
  rw [if_neg bn] at H
  obtain rfl := Option.some.inj H
  go_enter Try.func74, Try.ntmps74
  go_wp2_with (first | ((with_reducible refine gate_dst (N := 3) rfl ?_); refine bE (N := 3) (cs := #[.int .i64 a0_0, .int .i64 a0_1]) (t := 41) ?_; intro gb171 hg w26 hbox hb; have BK171 := bA (hbox); have GW171 := bA (bZ hg); have GE171 := bA (bZ hg); replace HB := bA (bS hb); clear hb hbox hg) | ((with_reducible refine gate_dst (N := 4) rfl ?_); refine bE (N := 4) (cs := #[.int .i64 a1_0, .int .i64 a1_1]) (t := 41) ?_; intro gb172 hg w27 hbox hb; have BK172 := bA (hbox); have GW172 := bA (bZ hg); have GE172 := bA (bZ hg); have NB171_172 := bA (bL BK171 hg); have NB172_171 := bA (bG BK171 hg); replace BK171 := bA (bB BK171 hb); replace HB := bA (bS hb); clear hb hbox hg) | ((with_reducible refine gate_dst (N := 5) rfl ?_); refine bE (N := 5) (cs := #[.int .i64 a2_0, .int .i64 a2_1]) (t := 41) ?_; intro gb173 hg w28 hbox hb; have BK173 := bA (hbox); have GW173 := bA (bZ hg); have GE173 := bA (bZ hg); have NB171_173 := bA (bL BK171 hg); have NB173_171 := bA (bG BK171 hg); have NB172_173 := bA (bL BK172 hg); have NB173_172 := bA (bG BK172 hg); replace BK171 := bA (bB BK171 hb); replace BK172 := bA (bB BK172 hb); replace HB := bA (bS hb); clear hb hbox hg; have hnb29 := NB171_172.out; have hnc29 := NB172_171.out; have hnb30 := NB171_173.out; have hnc30 := NB173_171.out; obtain ⟨hcz31_0, hcz31_1, hfz31_0, hfz31_1⟩ := bc2 BK171; have hnb32 := NB172_173.out; have hnc32 := NB173_172.out; obtain ⟨hcz33_0, hcz33_1, hfz33_0, hfz33_1⟩ := bc2 BK172; obtain ⟨hcz34_0, hcz34_1, hfz34_0, hfz34_1⟩ := bc2 BK173) | ((with_reducible refine gate_dst (N := 10) rfl ?_); refine Kd.R_lit k41 _ 41 ?hg (N := 10) ?hd (xs := ([(⟨a0_0, a0_1⟩ : S41), (⟨a1_0, a1_1⟩ : S41), (⟨a2_0, a2_1⟩ : S41)] : List (S41))) (inner := [.int .i64 a0_0, .int .i64 a0_1, .int .i64 a1_0, .int .i64 a1_1, .int .i64 a2_0, .int .i64 a2_1]) (ok := fun _ => True) (okp := fun _ => True) ?hr ?hp (fun _ hk => hk) trivial (Below.refl _ _) (Nat.le_refl _) (by simp) ?_; (case hd => rfl); (case hg => rfl); (case hr => first | (go_simp; done) | (go_simp; rfl)); (case hp => exact (Reps.c2 (show Kd.M k41 _ _ _ (⟨a0_0, a0_1⟩ : S41) [.int .i64 a0_0, .int .i64 a0_1] from (k41_mkM _ _ _ (⟨a0_0, a0_1⟩ : S41) )) (Reps.c2 (show Kd.M k41 _ _ _ (⟨a1_0, a1_1⟩ : S41) [.int .i64 a1_0, .int .i64 a1_1] from (k41_mkM _ _ _ (⟨a1_0, a1_1⟩ : S41) )) (Reps.c2 (show Kd.M k41 _ _ _ (⟨a2_0, a2_1⟩ : S41) [.int .i64 a2_0, .int .i64 a2_1] from (k41_mkM _ _ _ (⟨a2_0, a2_1⟩ : S41) )) (Reps.none _ _))))); intro v175 w35 ho36 hb hg_ hnew_; clear hg_ hnew_; (first | rw [← Ny174.out] at ho36 | (simp only [Int.reduceToNat] at ho36; rw [← Ny174.out] at ho36)); have HO176 := bA (Kd.R_lower (bN (bN (bN ho36 BK171) BK172) BK173) bY); replace BK171 := bA (bB BK171 hb); replace BK172 := bA (bB BK172 hb); replace BK173 := bA (bB BK173 hb); replace HB := bA (bS hb); clear hb ho36; obtain ⟨Ao37, co37, eo37⟩ := Kd.R_slice HO176.out; subst eo37) | ((first | ((with_reducible refine gate_callee (f := 85) rfl ?_); refine bC (some 11) Try.func85 #[.slice Ao37 y174.length co37] ?_) | go_at_call 85); (with_reducible refine (point_right.calls k _ _ y174 false _ ?side1 ?side2 A4.out).mono ?_); (case side1 => repeat (first | exact (Kd.R_reads' HO176.out).2.2 | (with_reducible refine Kd.C_alloc ?_ _) | (with_reducible refine Kd.C_drewN ?_ _) | (with_reducible refine Kd.C_drew ?_))); (case side2 => exact (Kd.R_reads' HO176.out).2.1); rintro e w38 ⟨rfl, hb⟩; (first | refine ⟨_, rfl, ?_⟩ | skip); replace HO176 := bA (Kd.R_below (bRr HO176) hb); replace BK171 := bA (bB BK171 hb); replace BK172 := bA (bB BK172 hb); replace BK173 := bA (bB BK173 hb); replace HB := bA (bS hb); (try clear hb)))
  go_ret
  exact bF
 subst c5
 rw [if_pos rfl] at H
 replace H := Option.bind_eq_some_iff.mp H
 obtain ⟨⟨t178, t179⟩, A60, H⟩ := H
 replace H : ((wide_Mul.f (wrap64 (a1_1 - a0_1)) (wrap64 (a2_0 - a0_0))).bind fun bt180 => ((wide_Wide_Cmp.f k t178 t179 bt180.1 bt180.2).bind fun t182 => (some t182))) = some r := H
 have A6 := bA A60
 clear A60
 replace H := Option.bind_eq_some_iff.mp H
 obtain ⟨⟨t180, t181⟩, A70, H⟩ := H
 replace H : ((wide_Wide_Cmp.f k t178 t179 t180 t181).bind fun t182 => (some t182)) = some r := H
 have A7 := bA A70
 clear A70
 replace H := Option.bind_eq_some_iff.mp H
 obtain ⟨t182, A80, H⟩ := H
 have A8 := bA A80
 clear A80
 obtain rfl := Option.some.inj H
 go_enter Try.func74, Try.ntmps74
 try go_wp2_with (first | ((with_reducible refine gate_dst (N := 3) rfl ?_); refine bE (N := 3) (cs := #[.int .i64 a0_0, .int .i64 a0_1]) (t := 41) ?_; intro gb171 hg w9 hbox hb; have BK171 := bA (hbox); have GW171 := bA (bZ hg); have GE171 := bA (bZ hg); replace HB := bA (bS hb); clear hb hbox hg) | ((with_reducible refine gate_dst (N := 4) rfl ?_); refine bE (N := 4) (cs := #[.int .i64 a1_0, .int .i64 a1_1]) (t := 41) ?_; intro gb172 hg w10 hbox hb; have BK172 := bA (hbox); have GW172 := bA (bZ hg); have GE172 := bA (bZ hg); have NB171_172 := bA (bL BK171 hg); have NB172_171 := bA (bG BK171 hg); replace BK171 := bA (bB BK171 hb); replace HB := bA (bS hb); clear hb hbox hg) | ((with_reducible refine gate_dst (N := 5) rfl ?_); refine bE (N := 5) (cs := #[.int .i64 a2_0, .int .i64 a2_1]) (t := 41) ?_; intro gb173 hg w11 hbox hb; have BK173 := bA (hbox); have GW173 := bA (bZ hg); have GE173 := bA (bZ hg); have NB171_173 := bA (bL BK171 hg); have NB173_171 := bA (bG BK171 hg); have NB172_173 := bA (bL BK172 hg); have NB173_172 := bA (bG BK172 hg); replace BK171 := bA (bB BK171 hb); replace BK172 := bA (bB BK172 hb); replace HB := bA (bS hb); clear hb hbox hg; have hnb12 := NB171_172.out; have hnc12 := NB172_171.out; have hnb13 := NB171_173.out; have hnc13 := NB173_171.out; obtain ⟨hcz14_0, hcz14_1, hfz14_0, hfz14_1⟩ := bc2 BK171; have hnb15 := NB172_173.out; have hnc15 := NB173_172.out; obtain ⟨hcz16_0, hcz16_1, hfz16_0, hfz16_1⟩ := bc2 BK172; obtain ⟨hcz17_0, hcz17_1, hfz17_0, hfz17_1⟩ := bc2 BK173) | ((with_reducible refine gate_dst (N := 10) rfl ?_); refine Kd.R_lit k41 _ 41 ?hg (N := 10) ?hd (xs := ([(⟨a0_0, a0_1⟩ : S41), (⟨a1_0, a1_1⟩ : S41), (⟨a2_0, a2_1⟩ : S41)] : List (S41))) (inner := [.int .i64 a0_0, .int .i64 a0_1, .int .i64 a1_0, .int .i64 a1_1, .int .i64 a2_0, .int .i64 a2_1]) (ok := fun _ => True) (okp := fun _ => True) ?hr ?hp (fun _ hk => hk) trivial (Below.refl _ _) (Nat.le_refl _) (by simp) ?_; (case hd => rfl); (case hg => rfl); (case hr => first | (go_simp; done) | (go_simp; rfl)); (case hp => exact (Reps.c2 (show Kd.M k41 _ _ _ (⟨a0_0, a0_1⟩ : S41) [.int .i64 a0_0, .int .i64 a0_1] from (k41_mkM _ _ _ (⟨a0_0, a0_1⟩ : S41) )) (Reps.c2 (show Kd.M k41 _ _ _ (⟨a1_0, a1_1⟩ : S41) [.int .i64 a1_0, .int .i64 a1_1] from (k41_mkM _ _ _ (⟨a1_0, a1_1⟩ : S41) )) (Reps.c2 (show Kd.M k41 _ _ _ (⟨a2_0, a2_1⟩ : S41) [.int .i64 a2_0, .int .i64 a2_1] from (k41_mkM _ _ _ (⟨a2_0, a2_1⟩ : S41) )) (Reps.none _ _))))); intro v175 w18 ho19 hb hg_ hnew_; clear hg_ hnew_; (first | rw [← Ny174.out] at ho19 | (simp only [Int.reduceToNat] at ho19; rw [← Ny174.out] at ho19)); have HO176 := bA (Kd.R_lower (bN (bN (bN ho19 BK171) BK172) BK173) bY); replace BK171 := bA (bB BK171 hb); replace BK172 := bA (bB BK172 hb); replace BK173 := bA (bB BK173 hb); replace HB := bA (bS hb); clear hb ho19; obtain ⟨Ao20, co20, eo20⟩ := Kd.R_slice HO176.out; subst eo20) | ((first | ((with_reducible refine gate_callee (f := 85) rfl ?_); refine bC (some 11) Try.func85 #[.slice Ao20 y174.length co20] ?_) | go_at_call 85); (with_reducible refine (point_right.calls k _ _ y174 true _ ?side1 ?side2 A4.out).mono ?_); (case side1 => repeat (first | exact (Kd.R_reads' HO176.out).2.2 | (with_reducible refine Kd.C_alloc ?_ _) | (with_reducible refine Kd.C_drewN ?_ _) | (with_reducible refine Kd.C_drew ?_))); (case side2 => exact (Kd.R_reads' HO176.out).2.1); rintro e w21 ⟨rfl, hb⟩; (first | refine ⟨_, rfl, ?_⟩ | skip); replace HO176 := bA (Kd.R_below (bRr HO176) hb); replace BK171 := bA (bB BK171 hb); replace BK172 := bA (bB BK172 hb); replace BK173 := bA (bB BK173 hb); replace HB := bA (bS hb); (try clear hb)))
 replace HO176 := bA (Kd.R_drew HO176.out)
 replace BK171 := bA (blk_drew BK171.out)
 replace BK172 := bA (blk_drew BK172.out)
 replace BK173 := bA (blk_drew BK173.out)
 replace HB := bA (below_drew1 HB.out)
 refine start_ (n := 24) (S := fun w' => w'.cell? ⟨gb172, 0, none⟩ = some (.int .i64 a1_0) ∧ w'.cell? ⟨gb172, 1, none⟩ = some (.int .i64 a1_1) ∧ w'.cell? ⟨gb171, 0, none⟩ = some (.int .i64 a0_0) ∧ w'.cell? ⟨gb171, 1, none⟩ = some (.int .i64 a0_1) ∧ w'.cell? ⟨gb173, 0, none⟩ = some (.int .i64 a2_0) ∧ w'.cell? ⟨gb173, 1, none⟩ = some (.int .i64 a2_1)) (ds := []) #[false,false,false,false,false,false,false,false,false,false,false,false,false,false,false,false,false,false,false,false,false,false,false,false] (by kernel_rfl) rfl rfl ⟨bq BK172 0, bq BK172 1, bq BK171 0, bq BK171 1, bq BK173 0, bq BK173 1⟩ (fun hHeld => ?_); refine with_tabW point_Turn.tab3 point_Turn.bits3 (fun HT_ HW_ => ?_)
 generalize w21.drew = w22 at HO176 BK171 BK172 BK173 HB hHeld ⊢
 refine bU (i := 0) (N := some 13) ?_
 refine bU (i := 2) (N := some 15) ?_
 refine bU (i := 5) (N := some 18) ?_
 refine bU (i := 7) (N := some 20) ?_
 refine bU (i := 11) (N := some 24) ?_
 refine bU (i := 13) (N := some 26) ?_
 refine bU (i := 16) (N := some 29) ?_
 refine bU (i := 18) (N := some 31) ?_
 refine bW (i := 1) (N := some 14) hHeld ?_
 refine bW (i := 3) (N := some 16) hHeld ?_
 refine bU (i := 4) (N := some 17) ?_
 refine bW (i := 6) (N := some 19) hHeld ?_
 refine bW (i := 8) (N := some 21) hHeld ?_
 refine bU (i := 9) (N := some 22) ?_
 refine bW (i := 12) (N := some 25) hHeld ?_
 refine bW (i := 14) (N := some 27) hHeld ?_
 refine bU (i := 15) (N := some 28) ?_
 refine bW (i := 17) (N := some 30) hHeld ?_
 refine bW (i := 19) (N := some 32) hHeld ?_
 refine bU (i := 20) (N := some 33) ?_
 refine one_ (i := 10) (N := some 23) #[true,true,true,true,true,true,true,true,true,true,true,true,true,true,true,true,true,true,true,true,true,false,false,false] rfl rfl (one_of HT_.out (by kernel_rfl)) (by decide) (fun K hK => ?_)
 refine goes_ Try.func77 (by kernel_rfl) rfl #[.int .i64 (wrap64 (a1_0 - a0_0)), .int .i64 (wrap64 (a2_1 - a0_1))] (by rfl) rfl rfl (by (try simp only [List.map_toArray, List.map_cons, List.map_nil]); first | done | rfl | (simp only [List.length_drop, List.length_take]; rfl)) ?_
 with_reducible refine (wide_Mul.calls (wrap64 (a1_0 - a0_0)) (wrap64 (a2_1 - a0_1)) t178 t179 _ A6.out).mono ?_
 rintro e w23 ⟨rfl, hb⟩
 refine ⟨_, rfl, ?_⟩
 replace HO176 := bA (Kd.R_below (bRr HO176) hb)
 replace BK171 := bA (bB BK171 hb)
 replace BK172 := bA (bB BK172 hb)
 replace BK173 := bA (bB BK173 hb)
 replace HB := bA (bS hb)
 (try clear hb)
 refine hK.out _ _ ⟨bq BK172 0, bq BK172 1, bq BK171 0, bq BK171 1, bq BK173 0, bq BK173 1⟩ (fun hHeld => ?_)
 clear hK K
 refine bI 23 ?_
 refine one_ (i := 21) (N := some 34) #[true,true,true,true,true,true,true,true,true,true,true,true,true,true,true,true,true,true,true,true,true,true,false,false] rfl rfl (one_of HT_.out (by kernel_rfl)) (by decide) (fun K hK => ?_)
 refine goes_ Try.func77 (by kernel_rfl) rfl #[.int .i64 (wrap64 (a1_1 - a0_1)), .int .i64 (wrap64 (a2_0 - a0_0))] (by rfl) rfl rfl (by (try simp only [List.map_toArray, List.map_cons, List.map_nil]); first | done | rfl | (simp only [List.length_drop, List.length_take]; rfl)) ?_
 with_reducible refine (wide_Mul.calls (wrap64 (a1_1 - a0_1)) (wrap64 (a2_0 - a0_0)) t180 t181 _ A7.out).mono ?_
 rintro e w24 ⟨rfl, hb⟩
 refine ⟨_, rfl, ?_⟩
 replace HO176 := bA (Kd.R_below (bRr HO176) hb)
 replace BK171 := bA (bB BK171 hb)
 replace BK172 := bA (bB BK172 hb)
 replace BK173 := bA (bB BK173 hb)
 replace HB := bA (bS hb)
 (try clear hb)
 refine hK.out _ _ ⟨bq BK172 0, bq BK172 1, bq BK171 0, bq BK171 1, bq BK173 0, bq BK173 1⟩ (fun hHeld => ?_)
 clear hK K
 refine bI 34 ?_
 refine one_ (i := 22) (N := some 35) #[true,true,true,true,true,true,true,true,true,true,true,true,true,true,true,true,true,true,true,true,true,true,true,false] rfl rfl (one_of HT_.out (by kernel_rfl)) (by decide) (fun K hK => ?_)
 refine goes_ Try.func104 (by kernel_rfl) rfl #[.agg #[.int .i64 t178, .int .u64 t179], .agg #[.int .i64 t180, .int .u64 t181]] (by rfl) rfl rfl (by (try simp only [List.map_toArray, List.map_cons, List.map_nil]); first | done | rfl | (simp only [List.length_drop, List.length_take]; rfl)) ?_
 with_reducible refine (wide_Wide_Cmp.calls k t178 t179 t180 t181 t182 _ A8.out).mono ?_
 rintro e w25 ⟨rfl, hb⟩
 refine ⟨_, rfl, ?_⟩
 replace HO176 := bA (Kd.R_below (bRr HO176) hb)
 replace BK171 := bA (bB BK171 hb)
 replace BK172 := bA (bB BK172 hb)
 replace BK173 := bA (bB BK173 hb)
 replace HB := bA (bS hb)
 (try clear hb)
 refine hK.out _ _ ⟨bq BK172 0, bq BK172 1, bq BK171 0, bq BK171 1, bq BK173 0, bq BK173 1⟩ (fun hHeld => ?_)
 clear hK K
 refine bI 35 ?_
 refine bU (i := 23) (N := some 6) ?_
 refine done_ (done_of HT_.out (by kernel_rfl)) ?_
 try go_wp2
 go_ret
 exact bF
/-! ### point_between: function 86 -/
def point_between.f (a0 : Int) (a1 : Int) (a2 : Int) : Option (Bool) := if (mn a1 a2) ≤ a0 then (some (decide (a0 ≤ (mx a1 a2)))) else (some false)
set_option maxHeartbeats 8000000 in
set_option maxRecDepth 100000 in
theorem point_between.calls (a0 : Int) (a1 : Int) (a2 : Int) (r : Bool) (w : World) (h : point_between.f a0 a1 a2 = some r) :
  Calls Try.prog 86 #[.int .i64 a0, .int .i64 a1, .int .i64 a2] w fun e w' => e = .returned (.bool r) ∧ Below w.heap.size w w' := by
 have HB := bA (Below.refl w.heap.size w)
 have H : (if (mn a1 a2) ≤ a0 then (some (decide (a0 ≤ (mx a1 a2)))) else (some false)) = some r := h
 clear h
 obtain ⟨ji4, hji4⟩ : ∃ j_ : Int, (mn a1 a2) = j_ := ⟨_, rfl⟩
 replace H : (if (ji4) ≤ a0 then (some (decide (a0 ≤ (mx a1 a2)))) else (some false)) = some r := by first | (rw [hji4] at H; exact H) | (simp only [hji4] at H ⊢; exact H)
 have hji4_ : (if a2 < a1 then a2 else a1) = ji4 := hji4
 by_cases c5 : (ji4) ≤ a0
 rw [if_pos c5] at H
 have c5b0 : decide ((ji4) ≤ a0) = true := decide_eq_true c5
 clear c5
 obtain ⟨ji6, hji6⟩ : ∃ j_ : Int, (mx a1 a2) = j_ := ⟨_, rfl⟩
 replace H : (some (decide (a0 ≤ (ji6)))) = some r := by first | (rw [hji6] at H; exact H) | (simp only [hji6] at H ⊢; exact H)
 have hji6_ : (if a1 < a2 then a2 else a1) = ji6 := hji6
 obtain rfl := Option.some.inj H
 rotate_left
 rw [if_neg c5] at H
 have c5b0 : decide ((ji4) ≤ a0) = false := decide_eq_false c5
 clear c5
 obtain rfl := Option.some.inj H
 rotate_left
 all_goals go_enter Try.func86, Try.ntmps86
 all_goals go_wp2
 ·go_ret
  exact ⟨by first | rfl | (simp [errW_none, errW_some] <;> rfl) | (simp only [← hji4, ← hji6]; first | rfl | (simp [errW_none, errW_some] <;> rfl)) | (simp [*, errW_none, errW_some] <;> rfl), by repeat (first | (with_reducible first | exact HB.out | apply below_alloc | apply pw_below_drewN | apply below_drew1) | exact HB.out)⟩
 go_ret
 exact ⟨by first | rfl | (simp [errW_none, errW_some] <;> rfl) | (simp only [← hji4]; first | rfl | (simp [errW_none, errW_some] <;> rfl)) | (simp [*, errW_none, errW_some] <;> rfl), by repeat (first | (with_reducible first | exact HB.out | apply below_alloc | apply pw_below_drewN | apply below_drew1) | exact HB.out)⟩
/-! ### point_On: function 41 -/
def point_On.f (k : Nat) (a0_0 : Int) (a0_1 : Int) (a1_0 : Int) (a1_1 : Int) (a2_0 : Int) (a2_1 : Int) : Option (Bool) := (point_right.f k (([(⟨a0_0, a0_1⟩ : S41), (⟨a1_0, a1_1⟩ : S41), (⟨a2_0, a2_1⟩ : S41)] : List (S41)))).bind fun t189 => (if t189 = true then ((point_Turn.f k a1_0 a1_1 a2_0 a2_1 a0_0 a0_1).bind fun t190 => (if t190 = 0 then ((point_between.f a0_0 a1_0 a2_0).bind fun t191 => (if t191 = true then ((point_between.f a0_1 a1_1 a2_1).bind fun t192 => (some t192)) else (some false))) else (some false))) else (some false))
theorem point_On.mono : ∀ a0 a1 a2 a3 a4 a5 k, LeO (point_On.f k a0 a1 a2 a3 a4 a5) (point_On.f (k + 1) a0 a1 a2 a3 a4 a5) := by
 intro a0 a1 a2 a3 a4 a5 k
 unfold point_On.f
 have m0_ := @point_Turn.mono
 have m1_ := @point_right.mono
 exact bMo
set_option maxHeartbeats 8000000 in
set_option maxRecDepth 100000 in
theorem point_On.calls (k : Nat) (a0_0 : Int) (a0_1 : Int) (a1_0 : Int) (a1_1 : Int) (a2_0 : Int) (a2_1 : Int) (r : Bool) (w : World) (h : point_On.f k a0_0 a0_1 a1_0 a1_1 a2_0 a2_1 = some r) :
  Calls Try.prog 41 #[.agg #[.int .i64 a0_0, .int .i64 a0_1], .agg #[.int .i64 a1_0, .int .i64 a1_1], .agg #[.int .i64 a2_0, .int .i64 a2_1]] w fun e w' => e = .returned (.bool r) ∧ Below w.heap.size w w' := by
 have hu41 := Try.underlying41
 have HB := bA (Below.refl w.heap.size w)
 have H : ((point_right.f k (([(⟨a0_0, a0_1⟩ : S41), (⟨a1_0, a1_1⟩ : S41), (⟨a2_0, a2_1⟩ : S41)] : List (S41)))).bind fun t189 => (if t189 = true then ((point_Turn.f k a1_0 a1_1 a2_0 a2_1 a0_0 a0_1).bind fun t190 => (if t190 = 0 then ((point_between.f a0_0 a1_0 a2_0).bind fun t191 => (if t191 = true then ((point_between.f a0_1 a1_1 a2_1).bind fun t192 => (some t192)) else (some false))) else (some false))) else (some false))) = some r := h
 clear h
 obtain ⟨y186, hy186⟩ : ∃ y_ : List (S41), y_ = (([(⟨a0_0, a0_1⟩ : S41), (⟨a1_0, a1_1⟩ : S41), (⟨a2_0, a2_1⟩ : S41)] : List (S41))) := ⟨_, rfl⟩
 replace H : ((point_right.f k y186).bind fun t189 => (if t189 = true then ((point_Turn.f k a1_0 a1_1 a2_0 a2_1 a0_0 a0_1).bind fun t190 => (if t190 = 0 then ((point_between.f a0_0 a1_0 a2_0).bind fun t191 => (if t191 = true then ((point_between.f a0_1 a1_1 a2_1).bind fun t192 => (some t192)) else (some false))) else (some false))) else (some false))) = some r := by first | (rw [hy186]; with_reducible exact H) | (have H2_ := (Option.bind_some _ _).symm.trans H; rw [hy186]; with_reducible exact H2_) | (have H2_ := (Option.bind_some _ _).symm.trans H; with_reducible exact H2_) | with_reducible exact H | (rw [hy186]; exact H) | exact H
 have Ny186 := bA hy186
 clear hy186
 replace H := Option.bind_eq_some_iff.mp H
 obtain ⟨t189, A40, H⟩ := H
 have A4 := bA A40
 clear A40
 by_cases c5 : t189 = true
 subst c5
 rw [if_pos rfl] at H
 replace H := Option.bind_eq_some_iff.mp H
 obtain ⟨t190, A60, H⟩ := H
 have A6 := bA A60
 clear A60
 by_cases c7 : t190 = 0
 rw [if_pos c7] at H
 have c7b0 : (t190 == 0) = true := beq_iff_eq.mpr c7
 have c7b1 : (t190 != 0) = false := bne_eq_false_iff_eq.mpr c7
 clear c7
 replace H := Option.bind_eq_some_iff.mp H
 obtain ⟨t191, A80, H⟩ := H
 have A8 := bA A80
 clear A80
 by_cases c9 : t191 = true
 subst c9
 rw [if_pos rfl] at H
 replace H := Option.bind_eq_some_iff.mp H
 obtain ⟨t192, A100, H⟩ := H
 have A10 := bA A100
 clear A100
 obtain rfl := Option.some.inj H
 rotate_left
 replace c9 := Bool.eq_false_iff.mpr c9
 subst c9
 rw [if_neg bn] at H
 obtain rfl := Option.some.inj H
 rotate_left
 rw [if_neg c7] at H
 have c7b0 : (t190 == 0) = false := beq_eq_false_iff_ne.mpr c7
 have c7b1 : (t190 != 0) = true := bne_iff_ne.mpr c7
 obtain rfl := Option.some.inj H
 rotate_left
 replace c5 := Bool.eq_false_iff.mpr c5
 subst c5
 rw [if_neg bn] at H
 obtain rfl := Option.some.inj H
 rotate_left
 all_goals go_enter Try.func41, Try.ntmps41
 all_goals go_wp2_with (first | ((with_reducible refine gate_dst (N := 3) rfl ?_); refine bE (N := 3) (cs := #[.int .i64 a0_0, .int .i64 a0_1]) (t := 41) ?_; intro gb183 hg wz0 hbox hb; have BK183 := bA (hbox); have GW183 := bA (bZ hg); have GE183 := bA (bZ hg); replace HB := bA (bS hb); clear hb hbox hg) | ((with_reducible refine gate_dst (N := 4) rfl ?_); refine bE (N := 4) (cs := #[.int .i64 a1_0, .int .i64 a1_1]) (t := 41) ?_; intro gb184 hg wz1 hbox hb; have BK184 := bA (hbox); have GW184 := bA (bZ hg); have GE184 := bA (bZ hg); have NB183_184 := bA (bL BK183 hg); have NB184_183 := bA (bG BK183 hg); replace BK183 := bA (bB BK183 hb); replace HB := bA (bS hb); clear hb hbox hg) | ((with_reducible refine gate_dst (N := 5) rfl ?_); refine bE (N := 5) (cs := #[.int .i64 a2_0, .int .i64 a2_1]) (t := 41) ?_; intro gb185 hg wz2 hbox hb; have BK185 := bA (hbox); have GW185 := bA (bZ hg); have GE185 := bA (bZ hg); have NB183_185 := bA (bL BK183 hg); have NB185_183 := bA (bG BK183 hg); have NB184_185 := bA (bL BK184 hg); have NB185_184 := bA (bG BK184 hg); replace BK183 := bA (bB BK183 hb); replace BK184 := bA (bB BK184 hb); replace HB := bA (bS hb); clear hb hbox hg; have hz1 := NB183_184.out; have hz2 := NB184_183.out; have hz3 := NB183_185.out; have hz4 := NB185_183.out; obtain ⟨hz5, hz6, hz7, hz8⟩ := bc2 BK183; have hz9 := NB184_185.out; have hz10 := NB185_184.out; obtain ⟨hz11, hz12, hz13, hz14⟩ := bc2 BK184; obtain ⟨hz15, hz16, hz17, hz18⟩ := bc2 BK185) | ((with_reducible refine gate_dst (N := 10) rfl ?_); refine Kd.R_lit k41 _ 41 ?hg (N := 10) ?hd (xs := ([(⟨a0_0, a0_1⟩ : S41), (⟨a1_0, a1_1⟩ : S41), (⟨a2_0, a2_1⟩ : S41)] : List (S41))) (inner := [.int .i64 a0_0, .int .i64 a0_1, .int .i64 a1_0, .int .i64 a1_1, .int .i64 a2_0, .int .i64 a2_1]) (ok := fun _ => True) (okp := fun _ => True) ?hr ?hp (fun _ hk => hk) trivial (Below.refl _ _) (Nat.le_refl _) (by simp) ?_; (case hd => rfl); (case hg => rfl); (case hr => first | (go_simp; done) | (go_simp; rfl)); (case hp => exact (Reps.c2 (show Kd.M k41 _ _ _ (⟨a0_0, a0_1⟩ : S41) [.int .i64 a0_0, .int .i64 a0_1] from (k41_mkM _ _ _ (⟨a0_0, a0_1⟩ : S41) )) (Reps.c2 (show Kd.M k41 _ _ _ (⟨a1_0, a1_1⟩ : S41) [.int .i64 a1_0, .int .i64 a1_1] from (k41_mkM _ _ _ (⟨a1_0, a1_1⟩ : S41) )) (Reps.c2 (show Kd.M k41 _ _ _ (⟨a2_0, a2_1⟩ : S41) [.int .i64 a2_0, .int .i64 a2_1] from (k41_mkM _ _ _ (⟨a2_0, a2_1⟩ : S41) )) (Reps.none _ _))))); intro v187 wz3 ho21 hb hg_ hnew_; clear hg_ hnew_; (first | rw [← Ny186.out] at ho21 | (simp only [Int.reduceToNat] at ho21; rw [← Ny186.out] at ho21)); have HO188 := bA (Kd.R_lower (bN (bN (bN ho21 BK183) BK184) BK185) bY); replace BK183 := bA (bB BK183 hb); replace BK184 := bA (bB BK184 hb); replace BK185 := bA (bB BK185 hb); replace HB := bA (bS hb); clear hb ho21; obtain ⟨Aoz4, coz5, eoz6⟩ := Kd.R_slice HO188.out; subst eoz6) | ((first | ((with_reducible refine gate_callee (f := 85) rfl ?_); refine bC (some 11) Try.func85 #[.slice Aoz4 y186.length coz5] ?_) | go_at_call 85); (with_reducible refine (point_right.calls k _ _ y186 true _ ?side1 ?side2 A4.out).mono ?_); (case side1 => repeat (first | exact (Kd.R_reads' HO188.out).2.2 | (with_reducible refine Kd.C_alloc ?_ _) | (with_reducible refine Kd.C_drewN ?_ _) | (with_reducible refine Kd.C_drew ?_))); (case side2 => exact (Kd.R_reads' HO188.out).2.1); rintro e wz7 ⟨rfl, hb⟩; (first | refine ⟨_, rfl, ?_⟩ | skip); replace HO188 := bA (Kd.R_below (bRr HO188) hb); replace BK183 := bA (bB BK183 hb); replace BK184 := bA (bB BK184 hb); replace BK185 := bA (bB BK185 hb); replace HB := bA (bS hb); (try clear hb); obtain ⟨hz19, hz20, hz13, hz14⟩ := bc2 BK184; obtain ⟨hz21, hz22, hz17, hz18⟩ := bc2 BK185; obtain ⟨hz23, hz24, hz7, hz8⟩ := bc2 BK183) | (go_at_call 74; (with_reducible refine (point_Turn.calls k a1_0 a1_1 a2_0 a2_1 a0_0 a0_1 t190 _ A6.out).mono ?_); rintro e wz8 ⟨rfl, hb⟩; replace HO188 := bA (Kd.R_below (bRr HO188) hb); replace BK183 := bA (bB BK183 hb); replace BK184 := bA (bB BK184 hb); replace BK185 := bA (bB BK185 hb); replace HB := bA (bS hb); (try clear hb); obtain ⟨hz25, hz26, hz7, hz8⟩ := bc2 BK183; obtain ⟨hz27, hz28, hz13, hz14⟩ := bc2 BK184; obtain ⟨hz29, hz30, hz17, hz18⟩ := bc2 BK185) | (go_at_call 86; (with_reducible refine (point_between.calls a0_0 a1_0 a2_0 true _ A8.out).mono ?_); rintro e wz9 ⟨rfl, hb⟩; replace HO188 := bA (Kd.R_below (bRr HO188) hb); replace BK183 := bA (bB BK183 hb); replace BK184 := bA (bB BK184 hb); replace BK185 := bA (bB BK185 hb); replace HB := bA (bS hb); (try clear hb); obtain ⟨hz31, hz32, hz7, hz8⟩ := bc2 BK183; obtain ⟨hz33, hz34, hz13, hz14⟩ := bc2 BK184; obtain ⟨hz35, hz36, hz17, hz18⟩ := bc2 BK185) | (go_at_call 86; (with_reducible refine (point_between.calls a0_1 a1_1 a2_1 t192 _ A10.out).mono ?_); rintro e wz10 ⟨rfl, hb⟩; replace HO188 := bA (Kd.R_below (bRr HO188) hb); replace BK183 := bA (bB BK183 hb); replace BK184 := bA (bB BK184 hb); replace BK185 := bA (bB BK185 hb); replace HB := bA (bS hb); (try clear hb)) | ((with_reducible refine gate_dst (N := 10) rfl ?_); refine Kd.R_lit k41 _ 41 ?hg (N := 10) ?hd (xs := ([(⟨a0_0, a0_1⟩ : S41), (⟨a1_0, a1_1⟩ : S41), (⟨a2_0, a2_1⟩ : S41)] : List (S41))) (inner := [.int .i64 a0_0, .int .i64 a0_1, .int .i64 a1_0, .int .i64 a1_1, .int .i64 a2_0, .int .i64 a2_1]) (ok := fun _ => True) (okp := fun _ => True) ?hr ?hp (fun _ hk => hk) trivial (Below.refl _ _) (Nat.le_refl _) (by simp) ?_; (case hd => rfl); (case hg => rfl); (case hr => first | (go_simp; done) | (go_simp; rfl)); (case hp => exact (Reps.c2 (show Kd.M k41 _ _ _ (⟨a0_0, a0_1⟩ : S41) [.int .i64 a0_0, .int .i64 a0_1] from (k41_mkM _ _ _ (⟨a0_0, a0_1⟩ : S41) )) (Reps.c2 (show Kd.M k41 _ _ _ (⟨a1_0, a1_1⟩ : S41) [.int .i64 a1_0, .int .i64 a1_1] from (k41_mkM _ _ _ (⟨a1_0, a1_1⟩ : S41) )) (Reps.c2 (show Kd.M k41 _ _ _ (⟨a2_0, a2_1⟩ : S41) [.int .i64 a2_0, .int .i64 a2_1] from (k41_mkM _ _ _ (⟨a2_0, a2_1⟩ : S41) )) (Reps.none _ _))))); intro v187 wz3 ho46 hb hg_ hnew_; clear hg_ hnew_; (first | rw [← Ny186.out] at ho46 | (simp only [Int.reduceToNat] at ho46; rw [← Ny186.out] at ho46)); have HO188 := bA (Kd.R_lower (bN (bN (bN ho46 BK183) BK184) BK185) bY); replace BK183 := bA (bB BK183 hb); replace BK184 := bA (bB BK184 hb); replace BK185 := bA (bB BK185 hb); replace HB := bA (bS hb); clear hb ho46; obtain ⟨Aoz4, coz5, eoz6⟩ := Kd.R_slice HO188.out; subst eoz6) | (go_at_call 86; (with_reducible refine (point_between.calls a0_0 a1_0 a2_0 false _ A8.out).mono ?_); rintro e wz9 ⟨rfl, hb⟩; replace HO188 := bA (Kd.R_below (bRr HO188) hb); replace BK183 := bA (bB BK183 hb); replace BK184 := bA (bB BK184 hb); replace BK185 := bA (bB BK185 hb); replace HB := bA (bS hb); (try clear hb)) | ((with_reducible refine gate_dst (N := 10) rfl ?_); refine Kd.R_lit k41 _ 41 ?hg (N := 10) ?hd (xs := ([(⟨a0_0, a0_1⟩ : S41), (⟨a1_0, a1_1⟩ : S41), (⟨a2_0, a2_1⟩ : S41)] : List (S41))) (inner := [.int .i64 a0_0, .int .i64 a0_1, .int .i64 a1_0, .int .i64 a1_1, .int .i64 a2_0, .int .i64 a2_1]) (ok := fun _ => True) (okp := fun _ => True) ?hr ?hp (fun _ hk => hk) trivial (Below.refl _ _) (Nat.le_refl _) (by simp) ?_; (case hd => rfl); (case hg => rfl); (case hr => first | (go_simp; done) | (go_simp; rfl)); (case hp => exact (Reps.c2 (show Kd.M k41 _ _ _ (⟨a0_0, a0_1⟩ : S41) [.int .i64 a0_0, .int .i64 a0_1] from (k41_mkM _ _ _ (⟨a0_0, a0_1⟩ : S41) )) (Reps.c2 (show Kd.M k41 _ _ _ (⟨a1_0, a1_1⟩ : S41) [.int .i64 a1_0, .int .i64 a1_1] from (k41_mkM _ _ _ (⟨a1_0, a1_1⟩ : S41) )) (Reps.c2 (show Kd.M k41 _ _ _ (⟨a2_0, a2_1⟩ : S41) [.int .i64 a2_0, .int .i64 a2_1] from (k41_mkM _ _ _ (⟨a2_0, a2_1⟩ : S41) )) (Reps.none _ _))))); intro v187 wz3 ho67 hb hg_ hnew_; clear hg_ hnew_; (first | rw [← Ny186.out] at ho67 | (simp only [Int.reduceToNat] at ho67; rw [← Ny186.out] at ho67)); have HO188 := bA (Kd.R_lower (bN (bN (bN ho67 BK183) BK184) BK185) bY); replace BK183 := bA (bB BK183 hb); replace BK184 := bA (bB BK184 hb); replace BK185 := bA (bB BK185 hb); replace HB := bA (bS hb); clear hb ho67; obtain ⟨Aoz4, coz5, eoz6⟩ := Kd.R_slice HO188.out; subst eoz6) | ((with_reducible refine gate_dst (N := 10) rfl ?_); refine Kd.R_lit k41 _ 41 ?hg (N := 10) ?hd (xs := ([(⟨a0_0, a0_1⟩ : S41), (⟨a1_0, a1_1⟩ : S41), (⟨a2_0, a2_1⟩ : S41)] : List (S41))) (inner := [.int .i64 a0_0, .int .i64 a0_1, .int .i64 a1_0, .int .i64 a1_1, .int .i64 a2_0, .int .i64 a2_1]) (ok := fun _ => True) (okp := fun _ => True) ?hr ?hp (fun _ hk => hk) trivial (Below.refl _ _) (Nat.le_refl _) (by simp) ?_; (case hd => rfl); (case hg => rfl); (case hr => first | (go_simp; done) | (go_simp; rfl)); (case hp => exact (Reps.c2 (show Kd.M k41 _ _ _ (⟨a0_0, a0_1⟩ : S41) [.int .i64 a0_0, .int .i64 a0_1] from (k41_mkM _ _ _ (⟨a0_0, a0_1⟩ : S41) )) (Reps.c2 (show Kd.M k41 _ _ _ (⟨a1_0, a1_1⟩ : S41) [.int .i64 a1_0, .int .i64 a1_1] from (k41_mkM _ _ _ (⟨a1_0, a1_1⟩ : S41) )) (Reps.c2 (show Kd.M k41 _ _ _ (⟨a2_0, a2_1⟩ : S41) [.int .i64 a2_0, .int .i64 a2_1] from (k41_mkM _ _ _ (⟨a2_0, a2_1⟩ : S41) )) (Reps.none _ _))))); intro v187 wz3 ho84 hb hg_ hnew_; clear hg_ hnew_; (first | rw [← Ny186.out] at ho84 | (simp only [Int.reduceToNat] at ho84; rw [← Ny186.out] at ho84)); have HO188 := bA (Kd.R_lower (bN (bN (bN ho84 BK183) BK184) BK185) bY); replace BK183 := bA (bB BK183 hb); replace BK184 := bA (bB BK184 hb); replace BK185 := bA (bB BK185 hb); replace HB := bA (bS hb); clear hb ho84; obtain ⟨Aoz4, coz5, eoz6⟩ := Kd.R_slice HO188.out; subst eoz6) | ((first | ((with_reducible refine gate_callee (f := 85) rfl ?_); refine bC (some 11) Try.func85 #[.slice Aoz4 y186.length coz5] ?_) | go_at_call 85); (with_reducible refine (point_right.calls k _ _ y186 false _ ?side1 ?side2 A4.out).mono ?_); (case side1 => repeat (first | exact (Kd.R_reads' HO188.out).2.2 | (with_reducible refine Kd.C_alloc ?_ _) | (with_reducible refine Kd.C_drewN ?_ _) | (with_reducible refine Kd.C_drew ?_))); (case side2 => exact (Kd.R_reads' HO188.out).2.1); rintro e wz7 ⟨rfl, hb⟩; (first | refine ⟨_, rfl, ?_⟩ | skip); replace HO188 := bA (Kd.R_below (bRr HO188) hb); replace BK183 := bA (bB BK183 hb); replace BK184 := bA (bB BK184 hb); replace BK185 := bA (bB BK185 hb); replace HB := bA (bS hb); (try clear hb)))
 all_goals (go_ret; exact bF)
end Go.Proofs.Ytjmibjmlihmglaa.G
