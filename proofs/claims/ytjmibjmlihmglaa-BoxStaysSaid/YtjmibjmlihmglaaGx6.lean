-- Written by a program of this session out of the translation; Lean checks it.
import Derived.Test.YtjmibjmlihmglaaGx0
import Derived.Test.YtjmibjmlihmglaaGx5
namespace Go.Proofs.Ytjmibjmlihmglaa.G
open Go.RowKit Go.Proofs.YtjmibjmlihmglaaW.PrintWords Go.Proofs.YtjmibjmlihmglaaW.PrintLast Go.Proofs.YtjmibjmlihmglaaW.PrintMore
attribute [local go_sem] max2_int min2_int max_two min_two max_three min_three max_four min_four   -- for this text's walks alone
set_option linter.unusedVariables false
set_option linter.unusedSimpArgs false

/-! ### wide_Wide_Cmp: function 104 -/
def wide_Wide_Cmp.f (k : Nat) (a0_0 : Int) (a0_1 : Int) (a1_0 : Int) (a1_1 : Int) : Option (Int) := (cmp_Compare_int64.f a0_0 a1_0).bind fun t123 => ((cmp_Compare_uint64.f a0_1 a1_1).bind fun t124 => ((cmp_Or_int.f k (([t123, t124] : List Int))).bind fun t128 => (some t128)))
theorem wide_Wide_Cmp.mono : ∀ a0 a1 a2 a3 k, LeO (wide_Wide_Cmp.f k a0 a1 a2 a3) (wide_Wide_Cmp.f (k + 1) a0 a1 a2 a3) := by
 intro a0 a1 a2 a3 k
 unfold wide_Wide_Cmp.f
 repeat' first
   | (with_reducible exact cmp_Or_int.mono _ _)
   | (with_reducible exact LeO.refl _)
   | (with_reducible exact LeO.none _)
   | (with_reducible refine LeO.ite ?_ ?_)
   | (with_reducible refine LeO.bind ?_ (fun _ => ?_))
   | exact cmp_Or_int.mono _ _
   | exact LeO.none _
   | refine LeO.ite ?_ ?_
   | refine LeO.bind ?_ (fun _ => ?_)
def wide_Wide_Cmp.T1 : Bool × List (List Nat × List Nat) := (true, [([], []), ([0], [0]), ([], []), ([2], [2]), ([1, 3], [1, 3]), ([], []), ([5], [5]), ([], []), ([7], [7]), ([6, 8, 4], [6, 8]), ([4, 9], [4, 9]), ([10, 9], [10]), ([11, 11, 0, 1, 2, 3, 4, 5, 6, 7, 8, 9, 10, 11], [11])])
def wide_Wide_Cmp.B1 : List Nat := [0, 1, 0, 4, 15, 0, 32, 0, 128, 511, 1023, 2047, 4095]
theorem wide_Wide_Cmp.tab1 : rtab .any (opsOf Try.f104 1) = wide_Wide_Cmp.T1 := by kernel_rfl
theorem wide_Wide_Cmp.bits1 : waitsOk wide_Wide_Cmp.T1.2 wide_Wide_Cmp.B1 = true := by kernel_rfl
set_option maxHeartbeats 8000000 in
set_option maxRecDepth 100000 in
theorem wide_Wide_Cmp.calls (k : Nat) (a0_0 : Int) (a0_1 : Int) (a1_0 : Int) (a1_1 : Int) (r : Int) (w : World) (h : wide_Wide_Cmp.f k a0_0 a0_1 a1_0 a1_1 = some r) :
  Calls Try.prog 104 #[.agg #[.int .i64 a0_0, .int .u64 a0_1], .agg #[.int .i64 a1_0, .int .u64 a1_1]] w fun e w' => e = .returned (.int .i64 r) ∧ Below w.heap.size w w' := by
 have hu85 := Try.underlying85
 have HB := bA (Below.refl w.heap.size w)
 have H : ((cmp_Compare_int64.f a0_0 a1_0).bind fun t123 => ((cmp_Compare_uint64.f a0_1 a1_1).bind fun t124 => ((cmp_Or_int.f k (([t123, t124] : List Int))).bind fun t128 => (some t128)))) = some r := h
 clear h
 replace H := Option.bind_eq_some_iff.mp H
 obtain ⟨t123, A30, H⟩ := H
 have A3 := bA A30
 clear A30
 replace H := Option.bind_eq_some_iff.mp H
 obtain ⟨t124, A40, H⟩ := H
 have A4 := bA A40
 clear A40
 obtain ⟨y125, hy125⟩ : ∃ y_ : List Int, y_ = (([t123, t124] : List Int)) := ⟨_, rfl⟩
 replace H : ((cmp_Or_int.f k y125).bind fun t128 => (some t128)) = some r := by first | (rw [hy125]; with_reducible exact H) | (have H2_ := (Option.bind_some _ _).symm.trans H; rw [hy125]; with_reducible exact H2_) | (have H2_ := (Option.bind_some _ _).symm.trans H; with_reducible exact H2_) | with_reducible exact H | (rw [hy125]; exact H) | exact H
 have Ny125 := bA hy125
 clear hy125
 replace H := Option.bind_eq_some_iff.mp H
 obtain ⟨t128, A50, H⟩ := H
 have A5 := bA A50
 clear A50
 obtain rfl := Option.some.inj H
 go_enter Try.func104, Try.ntmps104
 try go_wp2_with (first | ((with_reducible refine gate_dst (N := 2) rfl ?_); refine bE (N := 2) (cs := #[.int .i64 a0_0, .int .u64 a0_1]) (t := 85) ?_; intro gb121 hg w6 hbox hb; have BK121 := bA (hbox); have GW121 := bA (bZ hg); have GE121 := bA (bZ hg); replace HB := bA (bS hb); clear hb hbox hg) | ((with_reducible refine gate_dst (N := 3) rfl ?_); refine bE (N := 3) (cs := #[.int .i64 a1_0, .int .u64 a1_1]) (t := 85) ?_; intro gb122 hg w7 hbox hb; have BK122 := bA (hbox); have GW122 := bA (bZ hg); have GE122 := bA (bZ hg); have NB121_122 := bA (bL BK121 hg); have NB122_121 := bA (bG BK121 hg); replace BK121 := bA (bB BK121 hb); replace HB := bA (bS hb); clear hb hbox hg))
 replace BK121 := bA (blk_drew BK121.out)
 replace BK122 := bA (blk_drew BK122.out)
 replace HB := bA (below_drew1 HB.out)
 refine start_ (n := 13) (S := fun w' => w'.cell? ⟨gb121, 0, none⟩ = some (.int .i64 a0_0) ∧ w'.cell? ⟨gb121, 1, none⟩ = some (.int .u64 a0_1) ∧ w'.cell? ⟨gb122, 0, none⟩ = some (.int .i64 a1_0) ∧ w'.cell? ⟨gb122, 1, none⟩ = some (.int .u64 a1_1)) (ds := []) #[false,false,false,false,false,false,false,false,false,false,false,false,false] (by kernel_rfl) rfl rfl ⟨bq BK121 0, bq BK121 1, bq BK122 0, bq BK122 1⟩ (fun hHeld => ?_); refine with_tabW wide_Wide_Cmp.tab1 wide_Wide_Cmp.bits1 (fun HT_ HW_ => ?_)
 generalize w7.drew = w8 at BK121 BK122 HB hHeld ⊢
 refine bU (i := 0) (N := some 5) ?_
 refine bU (i := 2) (N := some 7) ?_
 refine bU (i := 5) (N := some 10) ?_
 refine bU (i := 7) (N := some 12) ?_
 refine bW (i := 1) (N := some 6) hHeld ?_
 refine bW (i := 3) (N := some 8) hHeld ?_
 refine bW (i := 6) (N := some 11) hHeld ?_
 refine bW (i := 8) (N := some 13) hHeld ?_
 refine one_ (i := 4) (N := some 9) #[true,true,true,true,true,true,true,true,true,false,false,false,false] rfl rfl (one_of HT_.out (by kernel_rfl)) (by decide) (fun K hK => ?_)
 refine goes_ Try.func116 (by kernel_rfl) rfl #[.int .i64 a0_0, .int .i64 a1_0] (by rfl) rfl rfl (by (try simp only [List.map_toArray, List.map_cons, List.map_nil]); first | done | rfl | (simp only [List.length_drop, List.length_take]; rfl)) ?_
 with_reducible refine (cmp_Compare_int64.calls a0_0 a1_0 t123 _ A3.out).mono ?_
 rintro e w' ⟨rfl, ⟨nd, rfl⟩⟩
 refine ⟨_, rfl, ?_⟩
 refine hK.out _ _ ⟨bq BK121 0, bq BK121 1, bq BK122 0, bq BK122 1⟩ (fun hHeld => ?_)
 clear hK K
 refine bH ?_
 refine one_ (i := 9) (N := some 14) #[true,true,true,true,true,true,true,true,true,true,false,false,false] rfl rfl (one_of HT_.out (by kernel_rfl)) (by decide) (fun K hK => ?_)
 refine goes_ Try.func117 (by kernel_rfl) rfl #[.int .u64 a0_1, .int .u64 a1_1] (by rfl) rfl rfl (by (try simp only [List.map_toArray, List.map_cons, List.map_nil]); first | done | rfl | (simp only [List.length_drop, List.length_take]; rfl)) ?_
 with_reducible refine (cmp_Compare_uint64.calls a0_1 a1_1 t124 _ A4.out).mono ?_
 rintro e w' ⟨rfl, ⟨nd, rfl⟩⟩
 refine ⟨_, rfl, ?_⟩
 refine hK.out _ _ ⟨bq BK121 0, bq BK121 1, bq BK122 0, bq BK122 1⟩ (fun hHeld => ?_)
 clear hK K
 refine bH ?_
 refine one_ (i := 10) (N := some 15) #[true,true,true,true,true,true,true,true,true,true,true,false,false] rfl rfl (one_of HT_.out (by kernel_rfl)) (by decide) (fun K hK => ?_)
 refine Kd.R_lit_step (Kd.int .i64) _ 3 ?hg (N := 15) ?hd (xs := ([t123, t124] : List Int)) (inner := [.int .i64 t123, .int .i64 t124]) (ok := fun _ => True) (okp := fun _ => True) ?hr ?hp (fun _ hk => hk) trivial (Below.refl _ _) (Nat.le_refl _) (by simp) ?_; (case hd => rfl); (case hg => rfl); (case hr => first | (go_simp; done) | (go_simp; rfl)); (case hp => exact (Reps.one (show Kd.M (Kd.int .i64) _ _ _ t123 [.int .i64 t123] from rfl) (Reps.one (show Kd.M (Kd.int .i64) _ _ _ t124 [.int .i64 t124] from rfl) (Reps.none _ _))))
 intro v126 w9 ho10 hb hg_ hnew_
 clear hg_ hnew_
 (first | rw [← Ny125.out] at ho10 | (simp only [Int.reduceToNat] at ho10; rw [← Ny125.out] at ho10))
 have HO127 := bA (Kd.R_lower ho10 bY)
 replace BK121 := bA (bB BK121 hb)
 replace BK122 := bA (bB BK122 hb)
 replace HB := bA (bS hb)
 clear hb ho10
 obtain ⟨Ao11, co11, eo11⟩ := Kd.R_slice HO127.out
 (first | subst eo11 | (injection eo11 with f1_ f2_ f3_; have f4_ := f1_.symm; have f5_ := f3_.symm; clear f1_ f2_ f3_; subst f4_; subst f5_))
 refine hK.out _ _ ⟨bq BK121 0, bq BK121 1, bq BK122 0, bq BK122 1⟩ (fun hHeld => ?_)
 clear hK K
 refine bH ?_
 refine one_ (i := 11) (N := some 16) #[true,true,true,true,true,true,true,true,true,true,true,true,false] rfl rfl (one_of HT_.out (by kernel_rfl)) (by decide) (fun K hK => ?_)
 refine goes_ Try.func115 (by kernel_rfl) rfl #[.slice Ao11 y125.length co11] (by rfl) rfl rfl (by (try simp only [List.map_toArray, List.map_cons, List.map_nil]); first | done | rfl | (simp only [List.length_drop, List.length_take]; rfl)) ?_
 with_reducible refine (cmp_Or_int.calls k _ _ y125 t128 _ ?side1 ?side2 A5.out).mono ?_
 (case side1 => repeat (first | exact (Kd.R_reads' HO127.out).2.2 | (with_reducible refine Kd.C_alloc ?_ _) | (with_reducible refine Kd.C_drewN ?_ _) | (with_reducible refine Kd.C_drew ?_)))
 (case side2 => exact (Kd.R_reads' HO127.out).2.1)
 rintro e w' ⟨rfl, ⟨nd, rfl⟩⟩
 refine ⟨_, rfl, ?_⟩
 refine hK.out _ _ ⟨bq BK121 0, bq BK121 1, bq BK122 0, bq BK122 1⟩ (fun hHeld => ?_)
 clear hK K
 refine bH ?_
 refine bU (i := 12) (N := some 4) ?_
 refine done_ (done_of HT_.out (by kernel_rfl)) ?_
 try go_wp2
 go_ret
 exact bF
/-! ### point_Turn: function 74 -/
def point_Turn.f (k : Nat) (a0_0 : Int) (a0_1 : Int) (a1_0 : Int) (a1_1 : Int) (a2_0 : Int) (a2_1 : Int) : Option (Int) := (point_right.f k (([(⟨a0_0, a0_1⟩ : S41), (⟨a1_0, a1_1⟩ : S41), (⟨a2_0, a2_1⟩ : S41)] : List (S41)))).bind fun t135 => (if t135 = true then ((wide_Mul.f (wrap64 (a1_0 - a0_0)) (wrap64 (a2_1 - a0_1))).bind fun bt136 => ((wide_Mul.f (wrap64 (a1_1 - a0_1)) (wrap64 (a2_0 - a0_0))).bind fun bt138 => ((wide_Wide_Cmp.f k bt136.1 bt136.2 bt138.1 bt138.2).bind fun t140 => (some t140)))) else (some 0))
theorem point_Turn.mono : ∀ a0 a1 a2 a3 a4 a5 k, LeO (point_Turn.f k a0 a1 a2 a3 a4 a5) (point_Turn.f (k + 1) a0 a1 a2 a3 a4 a5) := by
 intro a0 a1 a2 a3 a4 a5 k
 unfold point_Turn.f
 repeat' first
   | (with_reducible exact point_right.mono _ _)
   | (with_reducible exact wide_Wide_Cmp.mono _ _ _ _ _)
   | (with_reducible exact LeO.refl _)
   | (with_reducible exact LeO.none _)
   | (with_reducible refine LeO.ite ?_ ?_)
   | (with_reducible refine LeO.bind ?_ (fun _ => ?_))
   | exact point_right.mono _ _
   | exact wide_Wide_Cmp.mono _ _ _ _ _
   | exact LeO.none _
   | refine LeO.ite ?_ ?_
   | refine LeO.bind ?_ (fun _ => ?_)
def point_Turn.T3 : Bool × List (List Nat × List Nat) := (true, [([], []), ([0], [0]), ([], []), ([2], [2]), ([1, 3], [1, 3]), ([], []), ([5], [5]), ([], []), ([7], [7]), ([6, 8], [6, 8]), ([4, 9], [4, 9]), ([], []), ([11], [11]), ([], []), ([13], [13]), ([12, 14], [12, 14]), ([], []), ([16], [16]), ([], []), ([18], [18]), ([17, 19], [17, 19]), ([15, 20, 10], [15, 20]), ([10, 21, 21], [10, 21]), ([22, 22, 0, 1, 2, 3, 4, 5, 6, 7, 8, 9, 10, 11, 12, 13, 14, 15, 16, 17, 18, 19, 20, 21, 22], [22])])
def point_Turn.B3 : List Nat := [0, 1, 0, 4, 15, 0, 32, 0, 128, 480, 1023, 0, 2048, 0, 8192, 30720, 0, 65536, 0, 262144, 983040, 2097151, 4194303, 8388607]
theorem point_Turn.tab3 : rtab .any (opsOf Try.f74 3) = point_Turn.T3 := by kernel_rfl
theorem point_Turn.bits3 : waitsOk point_Turn.T3.2 point_Turn.B3 = true := by kernel_rfl
set_option maxHeartbeats 8000000 in
set_option maxRecDepth 100000 in
theorem point_Turn.calls (k : Nat) (a0_0 : Int) (a0_1 : Int) (a1_0 : Int) (a1_1 : Int) (a2_0 : Int) (a2_1 : Int) (r : Int) (w : World) (h : point_Turn.f k a0_0 a0_1 a1_0 a1_1 a2_0 a2_1 = some r) :
  Calls Try.prog 74 #[.agg #[.int .i64 a0_0, .int .i64 a0_1], .agg #[.int .i64 a1_0, .int .i64 a1_1], .agg #[.int .i64 a2_0, .int .i64 a2_1]] w fun e w' => e = .returned (.int .i64 r) ∧ Below w.heap.size w w' := by
 have hu41 := Try.underlying41
 have HB := bA (Below.refl w.heap.size w)
 have H : ((point_right.f k (([(⟨a0_0, a0_1⟩ : S41), (⟨a1_0, a1_1⟩ : S41), (⟨a2_0, a2_1⟩ : S41)] : List (S41)))).bind fun t135 => (if t135 = true then ((wide_Mul.f (wrap64 (a1_0 - a0_0)) (wrap64 (a2_1 - a0_1))).bind fun bt136 => ((wide_Mul.f (wrap64 (a1_1 - a0_1)) (wrap64 (a2_0 - a0_0))).bind fun bt138 => ((wide_Wide_Cmp.f k bt136.1 bt136.2 bt138.1 bt138.2).bind fun t140 => (some t140)))) else (some 0))) = some r := h
 clear h
 obtain ⟨y132, hy132⟩ : ∃ y_ : List (S41), y_ = (([(⟨a0_0, a0_1⟩ : S41), (⟨a1_0, a1_1⟩ : S41), (⟨a2_0, a2_1⟩ : S41)] : List (S41))) := ⟨_, rfl⟩
 replace H : ((point_right.f k y132).bind fun t135 => (if t135 = true then ((wide_Mul.f (wrap64 (a1_0 - a0_0)) (wrap64 (a2_1 - a0_1))).bind fun bt136 => ((wide_Mul.f (wrap64 (a1_1 - a0_1)) (wrap64 (a2_0 - a0_0))).bind fun bt138 => ((wide_Wide_Cmp.f k bt136.1 bt136.2 bt138.1 bt138.2).bind fun t140 => (some t140)))) else (some 0))) = some r := by first | (rw [hy132]; with_reducible exact H) | (have H2_ := (Option.bind_some _ _).symm.trans H; rw [hy132]; with_reducible exact H2_) | (have H2_ := (Option.bind_some _ _).symm.trans H; with_reducible exact H2_) | with_reducible exact H | (rw [hy132]; exact H) | exact H
 have Ny132 := bA hy132
 clear hy132
 replace H := Option.bind_eq_some_iff.mp H
 obtain ⟨t135, A40, H⟩ := H
 have A4 := bA A40
 clear A40
 by_cases c5 : t135 = true
 rotate_left
 ·replace c5 := Bool.eq_false_iff.mpr c5
  subst c5
  rw [if_neg bn] at H
  obtain rfl := Option.some.inj H
  go_enter Try.func74, Try.ntmps74
  go_wp2_with (first | ((with_reducible refine gate_dst (N := 3) rfl ?_); refine bE (N := 3) (cs := #[.int .i64 a0_0, .int .i64 a0_1]) (t := 41) ?_; intro gb129 hg w26 hbox hb; have BK129 := bA (hbox); have GW129 := bA (bZ hg); have GE129 := bA (bZ hg); replace HB := bA (bS hb); clear hb hbox hg) | ((with_reducible refine gate_dst (N := 4) rfl ?_); refine bE (N := 4) (cs := #[.int .i64 a1_0, .int .i64 a1_1]) (t := 41) ?_; intro gb130 hg w27 hbox hb; have BK130 := bA (hbox); have GW130 := bA (bZ hg); have GE130 := bA (bZ hg); have NB129_130 := bA (bL BK129 hg); have NB130_129 := bA (bG BK129 hg); replace BK129 := bA (bB BK129 hb); replace HB := bA (bS hb); clear hb hbox hg) | ((with_reducible refine gate_dst (N := 5) rfl ?_); refine bE (N := 5) (cs := #[.int .i64 a2_0, .int .i64 a2_1]) (t := 41) ?_; intro gb131 hg w28 hbox hb; have BK131 := bA (hbox); have GW131 := bA (bZ hg); have GE131 := bA (bZ hg); have NB129_131 := bA (bL BK129 hg); have NB131_129 := bA (bG BK129 hg); have NB130_131 := bA (bL BK130 hg); have NB131_130 := bA (bG BK130 hg); replace BK129 := bA (bB BK129 hb); replace BK130 := bA (bB BK130 hb); replace HB := bA (bS hb); clear hb hbox hg; have hnb29 := NB129_130.out; have hnc29 := NB130_129.out; have hnb30 := NB129_131.out; have hnc30 := NB131_129.out; obtain ⟨hcz31_0, hcz31_1, hfz31_0, hfz31_1⟩ := bc2 BK129; have hnb32 := NB130_131.out; have hnc32 := NB131_130.out; obtain ⟨hcz33_0, hcz33_1, hfz33_0, hfz33_1⟩ := bc2 BK130; obtain ⟨hcz34_0, hcz34_1, hfz34_0, hfz34_1⟩ := bc2 BK131) | ((with_reducible refine gate_dst (N := 10) rfl ?_); refine Kd.R_lit k41 _ 41 ?hg (N := 10) ?hd (xs := ([(⟨a0_0, a0_1⟩ : S41), (⟨a1_0, a1_1⟩ : S41), (⟨a2_0, a2_1⟩ : S41)] : List (S41))) (inner := [.int .i64 a0_0, .int .i64 a0_1, .int .i64 a1_0, .int .i64 a1_1, .int .i64 a2_0, .int .i64 a2_1]) (ok := fun _ => True) (okp := fun _ => True) ?hr ?hp (fun _ hk => hk) trivial (Below.refl _ _) (Nat.le_refl _) (by simp) ?_; (case hd => rfl); (case hg => rfl); (case hr => first | (go_simp; done) | (go_simp; rfl)); (case hp => exact (Reps.c2 (show Kd.M k41 _ _ _ (⟨a0_0, a0_1⟩ : S41) [.int .i64 a0_0, .int .i64 a0_1] from (k41_mkM _ _ _ (⟨a0_0, a0_1⟩ : S41) )) (Reps.c2 (show Kd.M k41 _ _ _ (⟨a1_0, a1_1⟩ : S41) [.int .i64 a1_0, .int .i64 a1_1] from (k41_mkM _ _ _ (⟨a1_0, a1_1⟩ : S41) )) (Reps.c2 (show Kd.M k41 _ _ _ (⟨a2_0, a2_1⟩ : S41) [.int .i64 a2_0, .int .i64 a2_1] from (k41_mkM _ _ _ (⟨a2_0, a2_1⟩ : S41) )) (Reps.none _ _))))); intro v133 w35 ho36 hb hg_ hnew_; clear hg_ hnew_; (first | rw [← Ny132.out] at ho36 | (simp only [Int.reduceToNat] at ho36; rw [← Ny132.out] at ho36)); have HO134 := bA (Kd.R_lower (bN (bN (bN ho36 BK129) BK130) BK131) bY); replace BK129 := bA (bB BK129 hb); replace BK130 := bA (bB BK130 hb); replace BK131 := bA (bB BK131 hb); replace HB := bA (bS hb); clear hb ho36; obtain ⟨Ao37, co37, eo37⟩ := Kd.R_slice HO134.out; subst eo37) | ((first | ((with_reducible refine gate_callee (f := 85) rfl ?_); refine bC (some 11) Try.func85 #[.slice Ao37 y132.length co37] ?_) | go_at_call 85); (with_reducible refine (point_right.calls k _ _ y132 false _ ?side1 ?side2 A4.out).mono ?_); (case side1 => repeat (first | exact (Kd.R_reads' HO134.out).2.2 | (with_reducible refine Kd.C_alloc ?_ _) | (with_reducible refine Kd.C_drewN ?_ _) | (with_reducible refine Kd.C_drew ?_))); (case side2 => exact (Kd.R_reads' HO134.out).2.1); rintro e w38 ⟨rfl, hb⟩; (first | refine ⟨_, rfl, ?_⟩ | skip); replace HO134 := bA (Kd.R_below (bRr HO134) hb); replace BK129 := bA (bB BK129 hb); replace BK130 := bA (bB BK130 hb); replace BK131 := bA (bB BK131 hb); replace HB := bA (bS hb); (try clear hb)))
  go_ret
  exact bF
 subst c5
 rw [if_pos rfl] at H
 replace H := Option.bind_eq_some_iff.mp H
 obtain ⟨⟨t136, t137⟩, A60, H⟩ := H
 replace H : ((wide_Mul.f (wrap64 (a1_1 - a0_1)) (wrap64 (a2_0 - a0_0))).bind fun bt138 => ((wide_Wide_Cmp.f k t136 t137 bt138.1 bt138.2).bind fun t140 => (some t140))) = some r := H
 have A6 := bA A60
 clear A60
 replace H := Option.bind_eq_some_iff.mp H
 obtain ⟨⟨t138, t139⟩, A70, H⟩ := H
 replace H : ((wide_Wide_Cmp.f k t136 t137 t138 t139).bind fun t140 => (some t140)) = some r := H
 have A7 := bA A70
 clear A70
 replace H := Option.bind_eq_some_iff.mp H
 obtain ⟨t140, A80, H⟩ := H
 have A8 := bA A80
 clear A80
 obtain rfl := Option.some.inj H
 go_enter Try.func74, Try.ntmps74
 try go_wp2_with (first | ((with_reducible refine gate_dst (N := 3) rfl ?_); refine bE (N := 3) (cs := #[.int .i64 a0_0, .int .i64 a0_1]) (t := 41) ?_; intro gb129 hg w9 hbox hb; have BK129 := bA (hbox); have GW129 := bA (bZ hg); have GE129 := bA (bZ hg); replace HB := bA (bS hb); clear hb hbox hg) | ((with_reducible refine gate_dst (N := 4) rfl ?_); refine bE (N := 4) (cs := #[.int .i64 a1_0, .int .i64 a1_1]) (t := 41) ?_; intro gb130 hg w10 hbox hb; have BK130 := bA (hbox); have GW130 := bA (bZ hg); have GE130 := bA (bZ hg); have NB129_130 := bA (bL BK129 hg); have NB130_129 := bA (bG BK129 hg); replace BK129 := bA (bB BK129 hb); replace HB := bA (bS hb); clear hb hbox hg) | ((with_reducible refine gate_dst (N := 5) rfl ?_); refine bE (N := 5) (cs := #[.int .i64 a2_0, .int .i64 a2_1]) (t := 41) ?_; intro gb131 hg w11 hbox hb; have BK131 := bA (hbox); have GW131 := bA (bZ hg); have GE131 := bA (bZ hg); have NB129_131 := bA (bL BK129 hg); have NB131_129 := bA (bG BK129 hg); have NB130_131 := bA (bL BK130 hg); have NB131_130 := bA (bG BK130 hg); replace BK129 := bA (bB BK129 hb); replace BK130 := bA (bB BK130 hb); replace HB := bA (bS hb); clear hb hbox hg; have hnb12 := NB129_130.out; have hnc12 := NB130_129.out; have hnb13 := NB129_131.out; have hnc13 := NB131_129.out; obtain ⟨hcz14_0, hcz14_1, hfz14_0, hfz14_1⟩ := bc2 BK129; have hnb15 := NB130_131.out; have hnc15 := NB131_130.out; obtain ⟨hcz16_0, hcz16_1, hfz16_0, hfz16_1⟩ := bc2 BK130; obtain ⟨hcz17_0, hcz17_1, hfz17_0, hfz17_1⟩ := bc2 BK131) | ((with_reducible refine gate_dst (N := 10) rfl ?_); refine Kd.R_lit k41 _ 41 ?hg (N := 10) ?hd (xs := ([(⟨a0_0, a0_1⟩ : S41), (⟨a1_0, a1_1⟩ : S41), (⟨a2_0, a2_1⟩ : S41)] : List (S41))) (inner := [.int .i64 a0_0, .int .i64 a0_1, .int .i64 a1_0, .int .i64 a1_1, .int .i64 a2_0, .int .i64 a2_1]) (ok := fun _ => True) (okp := fun _ => True) ?hr ?hp (fun _ hk => hk) trivial (Below.refl _ _) (Nat.le_refl _) (by simp) ?_; (case hd => rfl); (case hg => rfl); (case hr => first | (go_simp; done) | (go_simp; rfl)); (case hp => exact (Reps.c2 (show Kd.M k41 _ _ _ (⟨a0_0, a0_1⟩ : S41) [.int .i64 a0_0, .int .i64 a0_1] from (k41_mkM _ _ _ (⟨a0_0, a0_1⟩ : S41) )) (Reps.c2 (show Kd.M k41 _ _ _ (⟨a1_0, a1_1⟩ : S41) [.int .i64 a1_0, .int .i64 a1_1] from (k41_mkM _ _ _ (⟨a1_0, a1_1⟩ : S41) )) (Reps.c2 (show Kd.M k41 _ _ _ (⟨a2_0, a2_1⟩ : S41) [.int .i64 a2_0, .int .i64 a2_1] from (k41_mkM _ _ _ (⟨a2_0, a2_1⟩ : S41) )) (Reps.none _ _))))); intro v133 w18 ho19 hb hg_ hnew_; clear hg_ hnew_; (first | rw [← Ny132.out] at ho19 | (simp only [Int.reduceToNat] at ho19; rw [← Ny132.out] at ho19)); have HO134 := bA (Kd.R_lower (bN (bN (bN ho19 BK129) BK130) BK131) bY); replace BK129 := bA (bB BK129 hb); replace BK130 := bA (bB BK130 hb); replace BK131 := bA (bB BK131 hb); replace HB := bA (bS hb); clear hb ho19; obtain ⟨Ao20, co20, eo20⟩ := Kd.R_slice HO134.out; subst eo20) | ((first | ((with_reducible refine gate_callee (f := 85) rfl ?_); refine bC (some 11) Try.func85 #[.slice Ao20 y132.length co20] ?_) | go_at_call 85); (with_reducible refine (point_right.calls k _ _ y132 true _ ?side1 ?side2 A4.out).mono ?_); (case side1 => repeat (first | exact (Kd.R_reads' HO134.out).2.2 | (with_reducible refine Kd.C_alloc ?_ _) | (with_reducible refine Kd.C_drewN ?_ _) | (with_reducible refine Kd.C_drew ?_))); (case side2 => exact (Kd.R_reads' HO134.out).2.1); rintro e w21 ⟨rfl, hb⟩; (first | refine ⟨_, rfl, ?_⟩ | skip); replace HO134 := bA (Kd.R_below (bRr HO134) hb); replace BK129 := bA (bB BK129 hb); replace BK130 := bA (bB BK130 hb); replace BK131 := bA (bB BK131 hb); replace HB := bA (bS hb); (try clear hb)))
 replace HO134 := bA (Kd.R_drew HO134.out)
 replace BK129 := bA (blk_drew BK129.out)
 replace BK130 := bA (blk_drew BK130.out)
 replace BK131 := bA (blk_drew BK131.out)
 replace HB := bA (below_drew1 HB.out)
 refine start_ (n := 24) (S := fun w' => w'.cell? ⟨gb130, 0, none⟩ = some (.int .i64 a1_0) ∧ w'.cell? ⟨gb130, 1, none⟩ = some (.int .i64 a1_1) ∧ w'.cell? ⟨gb129, 0, none⟩ = some (.int .i64 a0_0) ∧ w'.cell? ⟨gb129, 1, none⟩ = some (.int .i64 a0_1) ∧ w'.cell? ⟨gb131, 0, none⟩ = some (.int .i64 a2_0) ∧ w'.cell? ⟨gb131, 1, none⟩ = some (.int .i64 a2_1)) (ds := []) #[false,false,false,false,false,false,false,false,false,false,false,false,false,false,false,false,false,false,false,false,false,false,false,false] (by kernel_rfl) rfl rfl ⟨bq BK130 0, bq BK130 1, bq BK129 0, bq BK129 1, bq BK131 0, bq BK131 1⟩ (fun hHeld => ?_); refine with_tabW point_Turn.tab3 point_Turn.bits3 (fun HT_ HW_ => ?_)
 generalize w21.drew = w22 at HO134 BK129 BK130 BK131 HB hHeld ⊢
 refine bU (i := 0) (N := some 13) ?_
 refine bU (i := 2) (N := some 15) ?_
 refine bU (i := 5) (N := some 18) ?_
 refine bU (i := 7) (N := some 20) ?_
 refine bU (i := 11) (N := some 24) ?_
 refine bU (i := 13) (N := some 26) ?_
 refine bU (i := 16) (N := some 29) ?_
 refine bU (i := 18) (N := some 31) ?_
 refine bW (i := 1) (N := some 14) hHeld ?_
 refine bW (i := 3) (N := some 16) hHeld ?_
 refine bU (i := 4) (N := some 17) ?_
 refine bW (i := 6) (N := some 19) hHeld ?_
 refine bW (i := 8) (N := some 21) hHeld ?_
 refine bU (i := 9) (N := some 22) ?_
 refine bW (i := 12) (N := some 25) hHeld ?_
 refine bW (i := 14) (N := some 27) hHeld ?_
 refine bU (i := 15) (N := some 28) ?_
 refine bW (i := 17) (N := some 30) hHeld ?_
 refine bW (i := 19) (N := some 32) hHeld ?_
 refine bU (i := 20) (N := some 33) ?_
 refine one_ (i := 10) (N := some 23) #[true,true,true,true,true,true,true,true,true,true,true,true,true,true,true,true,true,true,true,true,true,false,false,false] rfl rfl (one_of HT_.out (by kernel_rfl)) (by decide) (fun K hK => ?_)
 refine goes_ Try.func77 (by kernel_rfl) rfl #[.int .i64 (wrap64 (a1_0 - a0_0)), .int .i64 (wrap64 (a2_1 - a0_1))] (by rfl) rfl rfl (by (try simp only [List.map_toArray, List.map_cons, List.map_nil]); first | done | rfl | (simp only [List.length_drop, List.length_take]; rfl)) ?_
 with_reducible refine (wide_Mul.calls (wrap64 (a1_0 - a0_0)) (wrap64 (a2_1 - a0_1)) t136 t137 _ A6.out).mono ?_
 rintro e w23 ⟨rfl, hb⟩
 refine ⟨_, rfl, ?_⟩
 replace HO134 := bA (Kd.R_below (bRr HO134) hb)
 replace BK129 := bA (bB BK129 hb)
 replace BK130 := bA (bB BK130 hb)
 replace BK131 := bA (bB BK131 hb)
 replace HB := bA (bS hb)
 (try clear hb)
 refine hK.out _ _ ⟨bq BK130 0, bq BK130 1, bq BK129 0, bq BK129 1, bq BK131 0, bq BK131 1⟩ (fun hHeld => ?_)
 clear hK K
 refine bH ?_
 refine one_ (i := 21) (N := some 34) #[true,true,true,true,true,true,true,true,true,true,true,true,true,true,true,true,true,true,true,true,true,true,false,false] rfl rfl (one_of HT_.out (by kernel_rfl)) (by decide) (fun K hK => ?_)
 refine goes_ Try.func77 (by kernel_rfl) rfl #[.int .i64 (wrap64 (a1_1 - a0_1)), .int .i64 (wrap64 (a2_0 - a0_0))] (by rfl) rfl rfl (by (try simp only [List.map_toArray, List.map_cons, List.map_nil]); first | done | rfl | (simp only [List.length_drop, List.length_take]; rfl)) ?_
 with_reducible refine (wide_Mul.calls (wrap64 (a1_1 - a0_1)) (wrap64 (a2_0 - a0_0)) t138 t139 _ A7.out).mono ?_
 rintro e w24 ⟨rfl, hb⟩
 refine ⟨_, rfl, ?_⟩
 replace HO134 := bA (Kd.R_below (bRr HO134) hb)
 replace BK129 := bA (bB BK129 hb)
 replace BK130 := bA (bB BK130 hb)
 replace BK131 := bA (bB BK131 hb)
 replace HB := bA (bS hb)
 (try clear hb)
 refine hK.out _ _ ⟨bq BK130 0, bq BK130 1, bq BK129 0, bq BK129 1, bq BK131 0, bq BK131 1⟩ (fun hHeld => ?_)
 clear hK K
 refine bH ?_
 refine one_ (i := 22) (N := some 35) #[true,true,true,true,true,true,true,true,true,true,true,true,true,true,true,true,true,true,true,true,true,true,true,false] rfl rfl (one_of HT_.out (by kernel_rfl)) (by decide) (fun K hK => ?_)
 refine goes_ Try.func104 (by kernel_rfl) rfl #[.agg #[.int .i64 t136, .int .u64 t137], .agg #[.int .i64 t138, .int .u64 t139]] (by rfl) rfl rfl (by (try simp only [List.map_toArray, List.map_cons, List.map_nil]); first | done | rfl | (simp only [List.length_drop, List.length_take]; rfl)) ?_
 with_reducible refine (wide_Wide_Cmp.calls k t136 t137 t138 t139 t140 _ A8.out).mono ?_
 rintro e w25 ⟨rfl, hb⟩
 refine ⟨_, rfl, ?_⟩
 replace HO134 := bA (Kd.R_below (bRr HO134) hb)
 replace BK129 := bA (bB BK129 hb)
 replace BK130 := bA (bB BK130 hb)
 replace BK131 := bA (bB BK131 hb)
 replace HB := bA (bS hb)
 (try clear hb)
 refine hK.out _ _ ⟨bq BK130 0, bq BK130 1, bq BK129 0, bq BK129 1, bq BK131 0, bq BK131 1⟩ (fun hHeld => ?_)
 clear hK K
 refine bH ?_
 refine bU (i := 23) (N := some 6) ?_
 refine done_ (done_of HT_.out (by kernel_rfl)) ?_
 try go_wp2
 go_ret
 exact bF
/-! ### box_Corners: function 89 -/
def box_Corners.f (a0_0 : Int) (a0_1 : Int) (a0_2 : Int) (a0_3 : Int) : Option ((List (S41))) := (box_Right.f a0_0 a0_1 a0_2 a0_3).bind fun t142 => (if t142 = true then (some (([(⟨a0_0, a0_1⟩ : S41), (⟨a0_2, a0_1⟩ : S41), (⟨a0_2, a0_3⟩ : S41), (⟨a0_0, a0_3⟩ : S41)] : List (S41)))) else (some ([] : List (S41))))
set_option maxHeartbeats 8000000 in
set_option maxRecDepth 100000 in
theorem box_Corners.calls (a0_0 : Int) (a0_1 : Int) (a0_2 : Int) (a0_3 : Int) (r : List (S41)) (w : World) (h : box_Corners.f a0_0 a0_1 a0_2 a0_3 = some r) :
  Calls Try.prog 89 #[.agg #[.int .i64 a0_0, .int .i64 a0_1, .int .i64 a0_2, .int .i64 a0_3]] w fun e w' => ∃ v0_ : Value, e = .returned (v0_) ∧ Kd.R k41 41 w' w.heap.size (fun _ => True) v0_ r ∧ Below w.heap.size w w' := by
 have hu44 := Try.underlying44
 have hu41 := Try.underlying41
 have HB := bA (Below.refl w.heap.size w)
 have H : ((box_Right.f a0_0 a0_1 a0_2 a0_3).bind fun t142 => (if t142 = true then (some (([(⟨a0_0, a0_1⟩ : S41), (⟨a0_2, a0_1⟩ : S41), (⟨a0_2, a0_3⟩ : S41), (⟨a0_0, a0_3⟩ : S41)] : List (S41)))) else (some ([] : List (S41))))) = some r := h
 clear h
 replace H := Option.bind_eq_some_iff.mp H
 obtain ⟨t142, A20, H⟩ := H
 have A2 := bA A20
 clear A20
 by_cases c3 : t142 = true
 subst c3
 rw [if_pos rfl] at H
 obtain ⟨y143, hy143⟩ : ∃ y_ : List (S41), y_ = (([(⟨a0_0, a0_1⟩ : S41), (⟨a0_2, a0_1⟩ : S41), (⟨a0_2, a0_3⟩ : S41), (⟨a0_0, a0_3⟩ : S41)] : List (S41))) := ⟨_, rfl⟩
 replace H : (some y143) = some r := by first | (rw [hy143]; with_reducible exact H) | (have H2_ := (Option.bind_some _ _).symm.trans H; rw [hy143]; with_reducible exact H2_) | (have H2_ := (Option.bind_some _ _).symm.trans H; with_reducible exact H2_) | with_reducible exact H | (rw [hy143]; exact H) | exact H
 have Ny143 := bA hy143
 clear hy143
 obtain rfl := Option.some.inj H
 rotate_left
 replace c3 := Bool.eq_false_iff.mpr c3
 subst c3
 rw [if_neg bn] at H
 obtain rfl := Option.some.inj H
 rotate_left
 all_goals go_enter Try.func89, Try.ntmps89
 all_goals go_wp2_with (first | ((with_reducible refine gate_dst (N := 1) rfl ?_); refine bE (N := 1) (cs := #[.int .i64 a0_0, .int .i64 a0_1, .int .i64 a0_2, .int .i64 a0_3]) (t := 44) ?_; intro gb141 hg wz0 hbox hb; have BK141 := bA (hbox); have GW141 := bA (bZ hg); have GE141 := bA (bZ hg); replace HB := bA (bS hb); clear hb hbox hg; obtain ⟨hz1, hz2, hz3, hz4, hz5, hz6, hz7, hz8⟩ := bc4 BK141) | ((first | ((with_reducible refine gate_callee (f := 87) rfl ?_); refine bC (some 4) Try.func87 #[.agg #[.int .i64 a0_0, .int .i64 a0_1, .int .i64 a0_2, .int .i64 a0_3]] ?_) | go_at_call 87); (with_reducible refine (box_Right.calls a0_0 a0_1 a0_2 a0_3 true _ A2.out).mono ?_); rintro e wz1 ⟨rfl, hb⟩; (first | refine ⟨_, rfl, ?_⟩ | skip); replace BK141 := bA (bB BK141 hb); replace HB := bA (bS hb); (try clear hb); obtain ⟨hz9, hz10, hz11, hz12, hz5, hz6, hz7, hz8⟩ := bc4 BK141) | ((with_reducible refine gate_dst (N := 24) rfl ?_); refine Kd.R_lit k41 _ 41 ?hg (N := 24) ?hd (xs := ([(⟨a0_0, a0_1⟩ : S41), (⟨a0_2, a0_1⟩ : S41), (⟨a0_2, a0_3⟩ : S41), (⟨a0_0, a0_3⟩ : S41)] : List (S41))) (inner := [.int .i64 a0_0, .int .i64 a0_1, .int .i64 a0_2, .int .i64 a0_1, .int .i64 a0_2, .int .i64 a0_3, .int .i64 a0_0, .int .i64 a0_3]) (ok := fun _ => True) (okp := fun _ => True) ?hr ?hp (fun _ hk => hk) trivial (Below.refl _ _) (Nat.le_refl _) (by simp) ?_; (case hd => rfl); (case hg => rfl); (case hr => first | (go_simp; done) | (go_simp; rfl)); (case hp => exact (Reps.c2 (show Kd.M k41 _ _ _ (⟨a0_0, a0_1⟩ : S41) [.int .i64 a0_0, .int .i64 a0_1] from (k41_mkM _ _ _ (⟨a0_0, a0_1⟩ : S41) )) (Reps.c2 (show Kd.M k41 _ _ _ (⟨a0_2, a0_1⟩ : S41) [.int .i64 a0_2, .int .i64 a0_1] from (k41_mkM _ _ _ (⟨a0_2, a0_1⟩ : S41) )) (Reps.c2 (show Kd.M k41 _ _ _ (⟨a0_2, a0_3⟩ : S41) [.int .i64 a0_2, .int .i64 a0_3] from (k41_mkM _ _ _ (⟨a0_2, a0_3⟩ : S41) )) (Reps.c2 (show Kd.M k41 _ _ _ (⟨a0_0, a0_3⟩ : S41) [.int .i64 a0_0, .int .i64 a0_3] from (k41_mkM _ _ _ (⟨a0_0, a0_3⟩ : S41) )) (Reps.none _ _)))))); intro v144 wz2 ho9 hb hg_ hnew_; clear hg_ hnew_; (first | rw [← Ny143.out] at ho9 | (simp only [Int.reduceToNat] at ho9; rw [← Ny143.out] at ho9)); have HO145 := bA (Kd.R_lower ho9 bY); replace BK141 := bA (bB BK141 hb); replace HB := bA (bS hb); clear hb ho9) | ((first | ((with_reducible refine gate_callee (f := 87) rfl ?_); refine bC (some 4) Try.func87 #[.agg #[.int .i64 a0_0, .int .i64 a0_1, .int .i64 a0_2, .int .i64 a0_3]] ?_) | go_at_call 87); (with_reducible refine (box_Right.calls a0_0 a0_1 a0_2 a0_3 false _ A2.out).mono ?_); rintro e wz1 ⟨rfl, hb⟩; (first | refine ⟨_, rfl, ?_⟩ | skip); replace BK141 := bA (bB BK141 hb); replace HB := bA (bS hb); (try clear hb)))
 ·go_ret
  exact ⟨_, by first | rfl | (simp [errW_none, errW_some] <;> rfl) | (simp [*, errW_none, errW_some] <;> rfl), bRr HO145, by repeat (first | (with_reducible first | exact HB.out | apply below_alloc | apply pw_below_drewN | apply below_drew1 | refine below_set ?_ GE141.out) | exact HB.out)⟩
 go_ret
 exact ⟨_, by first | rfl | (simp [errW_none, errW_some] <;> rfl) | (simp [*, errW_none, errW_some] <;> rfl), by first | exact Kd.R_nil _ _ _ _ _ | exact Kd.N_nil _ _ _ _ _ | exact Kd.V_nil _ _ _ _ _ | exact Kd.Q_nil _ _ _ _ _ | exact Kd.S_nil _ _ _ _ _, by repeat (first | (with_reducible first | exact HB.out | apply below_alloc | apply pw_below_drewN | apply below_drew1 | refine below_set ?_ GE141.out) | exact HB.out)⟩
end Go.Proofs.Ytjmibjmlihmglaa.G
