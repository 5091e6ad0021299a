-- Written by a program of this session out of the translation; Lean checks it.
import Derived.Test.YtfeekdoakoabeaaGx0
import Derived.Test.YtfeekdoakoabeaaGx9
namespace Go.Proofs.Ytfeekdoakoabeaa.G
open Go.RowKit Go.Proofs.YtfeekdoakoabeaaW.PrintWords Go.Proofs.YtfeekdoakoabeaaW.PrintLast Go.Proofs.YtfeekdoakoabeaaW.PrintMore
attribute [local go_sem] max2_int min2_int max_two min_two max_three min_three max_four min_four   -- for this text's walks alone
set_option linter.unusedVariables false
set_option linter.unusedSimpArgs false

/-! ### point_Turn: function 73 -/
def point_Turn.f (k : Nat) (a0_0 : Int) (a0_1 : Int) (a1_0 : Int) (a1_1 : Int) (a2_0 : Int) (a2_1 : Int) : Option (Int) := (point_right.f k (([(⟨a0_0, a0_1⟩ : S28), (⟨a1_0, a1_1⟩ : S28), (⟨a2_0, a2_1⟩ : S28)] : List (S28)))).bind fun t264 => (if t264 = true then ((wide_Mul.f (wrap64 (a1_0 - a0_0)) (wrap64 (a2_1 - a0_1))).bind fun bt265 => ((wide_Mul.f (wrap64 (a1_1 - a0_1)) (wrap64 (a2_0 - a0_0))).bind fun bt267 => ((wide_Wide_Cmp.f k bt265.1 bt265.2 bt267.1 bt267.2).bind fun t269 => (some t269)))) else (some 0))
theorem point_Turn.mono : ∀ a0 a1 a2 a3 a4 a5 k, LeO (point_Turn.f k a0 a1 a2 a3 a4 a5) (point_Turn.f (k + 1) a0 a1 a2 a3 a4 a5) := by
 intro a0 a1 a2 a3 a4 a5 k
 unfold point_Turn.f
 have m0_ := @point_right.mono
 have m1_ := @wide_Wide_Cmp.mono
 exact bMo
def point_Turn.T3 : Bool × List (List Nat × List Nat) := (true, [([], []), ([0], [0]), ([], []), ([2], [2]), ([1, 3], [1, 3]), ([], []), ([5], [5]), ([], []), ([7], [7]), ([6, 8], [6, 8]), ([4, 9], [4, 9]), ([], []), ([11], [11]), ([], []), ([13], [13]), ([12, 14], [12, 14]), ([], []), ([16], [16]), ([], []), ([18], [18]), ([17, 19], [17, 19]), ([15, 20, 10], [15, 20]), ([10, 21, 21], [10, 21]), ([22, 22, 0, 1, 2, 3, 4, 5, 6, 7, 8, 9, 10, 11, 12, 13, 14, 15, 16, 17, 18, 19, 20, 21, 22], [22])])
def point_Turn.B3 : List Nat := [0, 1, 0, 4, 15, 0, 32, 0, 128, 480, 1023, 0, 2048, 0, 8192, 30720, 0, 65536, 0, 262144, 983040, 2097151, 4194303, 8388607]
theorem point_Turn.tab3 : rtab .any (opsOf Try.f73 3) = point_Turn.T3 := by kernel_rfl
theorem point_Turn.bits3 : waitsOk point_Turn.T3.2 point_Turn.B3 = true := by kernel_rfl
set_option maxHeartbeats 8000000 in
set_option maxRecDepth 100000 in
theorem point_Turn.calls (k : Nat) (a0_0 : Int) (a0_1 : Int) (a1_0 : Int) (a1_1 : Int) (a2_0 : Int) (a2_1 : Int) (r : Int) (w : World) (h : point_Turn.f k a0_0 a0_1 a1_0 a1_1 a2_0 a2_1 = some r) :
  Calls Try.prog 73 #[.agg #[.int .i64 a0_0, .int .i64 a0_1], .agg #[.int .i64 a1_0, .int .i64 a1_1], .agg #[.int .i64 a2_0, .int .i64 a2_1]] w fun e w' => e = .returned (.int .i64 r) ∧ Below w.heap.size w w' := by
 have hu28 := Try.underlying28
 have HB := bA (Below.refl w.heap.size w)
 have H : ((point_right.f k (([(⟨a0_0, a0_1⟩ : S28), (⟨a1_0, a1_1⟩ : S28), (⟨a2_0, a2_1⟩ : S28)] : List (S28)))).bind fun t264 => (if t264 = true then ((wide_Mul.f (wrap64 (a1_0 - a0_0)) (wrap64 (a2_1 - a0_1))).bind fun bt265 => ((wide_Mul.f (wrap64 (a1_1 - a0_1)) (wrap64 (a2_0 - a0_0))).bind fun bt267 => ((wide_Wide_Cmp.f k bt265.1 bt265.2 bt267.1 bt267.2).bind fun t269 => (some t269)))) else (some 0))) = some r := h
 clear h
 obtain ⟨y261, hy261⟩ : ∃ y_ : List (S28), y_ = (([(⟨a0_0, a0_1⟩ : S28), (⟨a1_0, a1_1⟩ : S28), (⟨a2_0, a2_1⟩ : S28)] : List (S28))) := ⟨_, rfl⟩
 replace H : ((point_right.f k y261).bind fun t264 => (if t264 = true then ((wide_Mul.f (wrap64 (a1_0 - a0_0)) (wrap64 (a2_1 - a0_1))).bind fun bt265 => ((wide_Mul.f (wrap64 (a1_1 - a0_1)) (wrap64 (a2_0 - a0_0))).bind fun bt267 => ((wide_Wide_Cmp.f k bt265.1 bt265.2 bt267.1 bt267.2).bind fun t269 => (some t269)))) else (some 0))) = some r := by first | (rw [hy261]; with_reducible exact H) | (have H2_ := (Option.bind_some _ _).symm.trans H; rw [hy261]; with_reducible exact H2_) | (have H2_ := (Option.bind_some _ _).symm.trans H; with_reducible exact H2_) | with_reducible exact H | (rw [hy261]; exact H) | exact H
 have Ny261 := bA hy261
 clear hy261
 replace H := Option.bind_eq_some_iff.mp H
 obtain ⟨t264, A40, H⟩ := H
 have A4 := bA A40
 clear A40
 by_cases c5 : t264 = true
 rotate_left
 ·replace c5 := Bool.eq_false_iff.mpr c5
  subst c5
  rw [if_neg bn] at H
  obtain rfl := Option.some.inj H
  go_enter Try.func73, Try.ntmps73
  go_wp2_with (first | ((with_reducible refine gate_dst (N := 3) rfl ?_); refine bE (N := 3) (cs := #[.int .i64 a0_0, .int .i64 a0_1]) (t := 28) ?_; intro gb258 hg w26 hbox hb; have BK258 := bA (hbox); have GW258 := bA (bZ hg); have GE258 := bA (bZ hg); replace HB := bA (bS hb); clear hb hbox hg) | ((with_reducible refine gate_dst (N := 4) rfl ?_); refine bE (N := 4) (cs := #[.int .i64 a1_0, .int .i64 a1_1]) (t := 28) ?_; intro gb259 hg w27 hbox hb; have BK259 := bA (hbox); have GW259 := bA (bZ hg); have GE259 := bA (bZ hg); have NB258_259 := bA (bL BK258 hg); have NB259_258 := bA (bG BK258 hg); replace BK258 := bA (bB BK258 hb); replace HB := bA (bS hb); clear hb hbox hg) | ((with_reducible refine gate_dst (N := 5) rfl ?_); refine bE (N := 5) (cs := #[.int .i64 a2_0, .int .i64 a2_1]) (t := 28) ?_; intro gb260 hg w28 hbox hb; have BK260 := bA (hbox); have GW260 := bA (bZ hg); have GE260 := bA (bZ hg); have NB258_260 := bA (bL BK258 hg); have NB260_258 := bA (bG BK258 hg); have NB259_260 := bA (bL BK259 hg); have NB260_259 := bA (bG BK259 hg); replace BK258 := bA (bB BK258 hb); replace BK259 := bA (bB BK259 hb); replace HB := bA (bS hb); clear hb hbox hg; have hnb29 := NB258_259.out; have hnc29 := NB259_258.out; have hnb30 := NB258_260.out; have hnc30 := NB260_258.out; obtain ⟨hcz31_0, hcz31_1, hfz31_0, hfz31_1⟩ := bc2 BK258; have hnb32 := NB259_260.out; have hnc32 := NB260_259.out; obtain ⟨hcz33_0, hcz33_1, hfz33_0, hfz33_1⟩ := bc2 BK259; obtain ⟨hcz34_0, hcz34_1, hfz34_0, hfz34_1⟩ := bc2 BK260) | ((with_reducible refine gate_dst (N := 10) rfl ?_); refine Kd.R_lit k28 _ 28 ?hg (N := 10) ?hd (xs := ([(⟨a0_0, a0_1⟩ : S28), (⟨a1_0, a1_1⟩ : S28), (⟨a2_0, a2_1⟩ : S28)] : List (S28))) (inner := [.int .i64 a0_0, .int .i64 a0_1, .int .i64 a1_0, .int .i64 a1_1, .int .i64 a2_0, .int .i64 a2_1]) (ok := fun _ => True) (okp := fun _ => True) ?hr ?hp (fun _ hk => hk) trivial (Below.refl _ _) (Nat.le_refl _) (by simp) ?_; (case hd => rfl); (case hg => rfl); (case hr => first | (go_simp; done) | (go_simp; rfl)); (case hp => exact (Reps.c2 (show Kd.M k28 _ _ _ (⟨a0_0, a0_1⟩ : S28) [.int .i64 a0_0, .int .i64 a0_1] from (k28_mkM _ _ _ (⟨a0_0, a0_1⟩ : S28) )) (Reps.c2 (show Kd.M k28 _ _ _ (⟨a1_0, a1_1⟩ : S28) [.int .i64 a1_0, .int .i64 a1_1] from (k28_mkM _ _ _ (⟨a1_0, a1_1⟩ : S28) )) (Reps.c2 (show Kd.M k28 _ _ _ (⟨a2_0, a2_1⟩ : S28) [.int .i64 a2_0, .int .i64 a2_1] from (k28_mkM _ _ _ (⟨a2_0, a2_1⟩ : S28) )) (Reps.none _ _))))); intro v262 w35 ho36 hb hg_ hnew_; clear hg_ hnew_; (first | rw [← Ny261.out] at ho36 | (simp only [Int.reduceToNat] at ho36; rw [← Ny261.out] at ho36)); have HO263 := bA (Kd.R_lower (bN (bN (bN ho36 BK258) BK259) BK260) bY); replace BK258 := bA (bB BK258 hb); replace BK259 := bA (bB BK259 hb); replace BK260 := bA (bB BK260 hb); replace HB := bA (bS hb); clear hb ho36; obtain ⟨Ao37, co37, eo37⟩ := Kd.R_slice HO263.out; subst eo37) | ((first | ((with_reducible refine gate_callee (f := 83) rfl ?_); refine bC (some 11) Try.func83 #[.slice Ao37 y261.length co37] ?_) | go_at_call 83); (with_reducible refine (point_right.calls k _ _ y261 false _ ?side1 ?side2 A4.out).mono ?_); (case side1 => repeat (first | exact (Kd.R_reads' HO263.out).2.2 | (with_reducible refine Kd.C_alloc ?_ _) | (with_reducible refine Kd.C_drewN ?_ _) | (with_reducible refine Kd.C_drew ?_))); (case side2 => exact (Kd.R_reads' HO263.out).2.1); rintro e w38 ⟨rfl, hb⟩; (first | refine ⟨_, rfl, ?_⟩ | skip); replace HO263 := bA (Kd.R_below (bRr HO263) hb); replace BK258 := bA (bB BK258 hb); replace BK259 := bA (bB BK259 hb); replace BK260 := bA (bB BK260 hb); replace HB := bA (bS hb); (try clear hb)))
  go_ret
  exact bF
 subst c5
 rw [if_pos rfl] at H
 replace H := Option.bind_eq_some_iff.mp H
 obtain ⟨⟨t265, t266⟩, A60, H⟩ := H
 replace H : ((wide_Mul.f (wrap64 (a1_1 - a0_1)) (wrap64 (a2_0 - a0_0))).bind fun bt267 => ((wide_Wide_Cmp.f k t265 t266 bt267.1 bt267.2).bind fun t269 => (some t269))) = some r := H
 have A6 := bA A60
 clear A60
 replace H := Option.bind_eq_some_iff.mp H
 obtain ⟨⟨t267, t268⟩, A70, H⟩ := H
 replace H : ((wide_Wide_Cmp.f k t265 t266 t267 t268).bind fun t269 => (some t269)) = some r := H
 have A7 := bA A70
 clear A70
 replace H := Option.bind_eq_some_iff.mp H
 obtain ⟨t269, A80, H⟩ := H
 have A8 := bA A80
 clear A80
 obtain rfl := Option.some.inj H
 go_enter Try.func73, Try.ntmps73
 try go_wp2_with (first | ((with_reducible refine gate_dst (N := 3) rfl ?_); refine bE (N := 3) (cs := #[.int .i64 a0_0, .int .i64 a0_1]) (t := 28) ?_; intro gb258 hg w9 hbox hb; have BK258 := bA (hbox); have GW258 := bA (bZ hg); have GE258 := bA (bZ hg); replace HB := bA (bS hb); clear hb hbox hg) | ((with_reducible refine gate_dst (N := 4) rfl ?_); refine bE (N := 4) (cs := #[.int .i64 a1_0, .int .i64 a1_1]) (t := 28) ?_; intro gb259 hg w10 hbox hb; have BK259 := bA (hbox); have GW259 := bA (bZ hg); have GE259 := bA (bZ hg); have NB258_259 := bA (bL BK258 hg); have NB259_258 := bA (bG BK258 hg); replace BK258 := bA (bB BK258 hb); replace HB := bA (bS hb); clear hb hbox hg) | ((with_reducible refine gate_dst (N := 5) rfl ?_); refine bE (N := 5) (cs := #[.int .i64 a2_0, .int .i64 a2_1]) (t := 28) ?_; intro gb260 hg w11 hbox hb; have BK260 := bA (hbox); have GW260 := bA (bZ hg); have GE260 := bA (bZ hg); have NB258_260 := bA (bL BK258 hg); have NB260_258 := bA (bG BK258 hg); have NB259_260 := bA (bL BK259 hg); have NB260_259 := bA (bG BK259 hg); replace BK258 := bA (bB BK258 hb); replace BK259 := bA (bB BK259 hb); replace HB := bA (bS hb); clear hb hbox hg; have hnb12 := NB258_259.out; have hnc12 := NB259_258.out; have hnb13 := NB258_260.out; have hnc13 := NB260_258.out; obtain ⟨hcz14_0, hcz14_1, hfz14_0, hfz14_1⟩ := bc2 BK258; have hnb15 := NB259_260.out; have hnc15 := NB260_259.out; obtain ⟨hcz16_0, hcz16_1, hfz16_0, hfz16_1⟩ := bc2 BK259; obtain ⟨hcz17_0, hcz17_1, hfz17_0, hfz17_1⟩ := bc2 BK260) | ((with_reducible refine gate_dst (N := 10) rfl ?_); refine Kd.R_lit k28 _ 28 ?hg (N := 10) ?hd (xs := ([(⟨a0_0, a0_1⟩ : S28), (⟨a1_0, a1_1⟩ : S28), (⟨a2_0, a2_1⟩ : S28)] : List (S28))) (inner := [.int .i64 a0_0, .int .i64 a0_1, .int .i64 a1_0, .int .i64 a1_1, .int .i64 a2_0, .int .i64 a2_1]) (ok := fun _ => True) (okp := fun _ => True) ?hr ?hp (fun _ hk => hk) trivial (Below.refl _ _) (Nat.le_refl _) (by simp) ?_; (case hd => rfl); (case hg => rfl); (case hr => first | (go_simp; done) | (go_simp; rfl)); (case hp => exact (Reps.c2 (show Kd.M k28 _ _ _ (⟨a0_0, a0_1⟩ : S28) [.int .i64 a0_0, .int .i64 a0_1] from (k28_mkM _ _ _ (⟨a0_0, a0_1⟩ : S28) )) (Reps.c2 (show Kd.M k28 _ _ _ (⟨a1_0, a1_1⟩ : S28) [.int .i64 a1_0, .int .i64 a1_1] from (k28_mkM _ _ _ (⟨a1_0, a1_1⟩ : S28) )) (Reps.c2 (show Kd.M k28 _ _ _ (⟨a2_0, a2_1⟩ : S28) [.int .i64 a2_0, .int .i64 a2_1] from (k28_mkM _ _ _ (⟨a2_0, a2_1⟩ : S28) )) (Reps.none _ _))))); intro v262 w18 ho19 hb hg_ hnew_; clear hg_ hnew_; (first | rw [← Ny261.out] at ho19 | (simp only [Int.reduceToNat] at ho19; rw [← Ny261.out] at ho19)); have HO263 := bA (Kd.R_lower (bN (bN (bN ho19 BK258) BK259) BK260) bY); replace BK258 := bA (bB BK258 hb); replace BK259 := bA (bB BK259 hb); replace BK260 := bA (bB BK260 hb); replace HB := bA (bS hb); clear hb ho19; obtain ⟨Ao20, co20, eo20⟩ := Kd.R_slice HO263.out; subst eo20) | ((first | ((with_reducible refine gate_callee (f := 83) rfl ?_); refine bC (some 11) Try.func83 #[.slice Ao20 y261.length co20] ?_) | go_at_call 83); (with_reducible refine (point_right.calls k _ _ y261 true _ ?side1 ?side2 A4.out).mono ?_); (case side1 => repeat (first | exact (Kd.R_reads' HO263.out).2.2 | (with_reducible refine Kd.C_alloc ?_ _) | (with_reducible refine Kd.C_drewN ?_ _) | (with_reducible refine Kd.C_drew ?_))); (case side2 => exact (Kd.R_reads' HO263.out).2.1); rintro e w21 ⟨rfl, hb⟩; (first | refine ⟨_, rfl, ?_⟩ | skip); replace HO263 := bA (Kd.R_below (bRr HO263) hb); replace BK258 := bA (bB BK258 hb); replace BK259 := bA (bB BK259 hb); replace BK260 := bA (bB BK260 hb); replace HB := bA (bS hb); (try clear hb)))
 replace HO263 := bA (Kd.R_drew HO263.out)
 replace BK258 := bA (blk_drew BK258.out)
 replace BK259 := bA (blk_drew BK259.out)
 replace BK260 := bA (blk_drew BK260.out)
 replace HB := bA (below_drew1 HB.out)
 refine start_ (n := 24) (S := fun w' => w'.cell? ⟨gb259, 0, none⟩ = some (.int .i64 a1_0) ∧ w'.cell? ⟨gb259, 1, none⟩ = some (.int .i64 a1_1) ∧ w'.cell? ⟨gb258, 0, none⟩ = some (.int .i64 a0_0) ∧ w'.cell? ⟨gb258, 1, none⟩ = some (.int .i64 a0_1) ∧ w'.cell? ⟨gb260, 0, none⟩ = some (.int .i64 a2_0) ∧ w'.cell? ⟨gb260, 1, none⟩ = some (.int .i64 a2_1)) (ds := []) #[false,false,false,false,false,false,false,false,false,false,false,false,false,false,false,false,false,false,false,false,false,false,false,false] (by kernel_rfl) rfl rfl ⟨bq BK259 0, bq BK259 1, bq BK258 0, bq BK258 1, bq BK260 0, bq BK260 1⟩ (fun hHeld => ?_); refine with_tabW point_Turn.tab3 point_Turn.bits3 (fun HT_ HW_ => ?_)
 generalize w21.drew = w22 at HO263 BK258 BK259 BK260 HB hHeld ⊢
 refine bU (i := 0) (N := some 13) ?_
 refine bU (i := 2) (N := some 15) ?_
 refine bU (i := 5) (N := some 18) ?_
 refine bU (i := 7) (N := some 20) ?_
 refine bU (i := 11) (N := some 24) ?_
 refine bU (i := 13) (N := some 26) ?_
 refine bU (i := 16) (N := some 29) ?_
 refine bU (i := 18) (N := some 31) ?_
 refine bW (i := 1) (N := some 14) hHeld ?_
 refine bW (i := 3) (N := some 16) hHeld ?_
 refine bU (i := 4) (N := some 17) ?_
 refine bW (i := 6) (N := some 19) hHeld ?_
 refine bW (i := 8) (N := some 21) hHeld ?_
 refine bU (i := 9) (N := some 22) ?_
 refine bW (i := 12) (N := some 25) hHeld ?_
 refine bW (i := 14) (N := some 27) hHeld ?_
 refine bU (i := 15) (N := some 28) ?_
 refine bW (i := 17) (N := some 30) hHeld ?_
 refine bW (i := 19) (N := some 32) hHeld ?_
 refine bU (i := 20) (N := some 33) ?_
 refine one_ (i := 10) (N := some 23) #[true,true,true,true,true,true,true,true,true,true,true,true,true,true,true,true,true,true,true,true,true,false,false,false] rfl rfl (one_of HT_.out (by kernel_rfl)) (by decide) (fun K hK => ?_)
 refine goes_ Try.func84 (by kernel_rfl) rfl #[.int .i64 (wrap64 (a1_0 - a0_0)), .int .i64 (wrap64 (a2_1 - a0_1))] (by rfl) rfl rfl (by (try simp only [List.map_toArray, List.map_cons, List.map_nil]); first | done | rfl | (simp only [List.length_drop, List.length_take]; rfl)) ?_
 with_reducible refine (wide_Mul.calls (wrap64 (a1_0 - a0_0)) (wrap64 (a2_1 - a0_1)) t265 t266 _ A6.out).mono ?_
 rintro e w23 ⟨rfl, hb⟩
 refine ⟨_, rfl, ?_⟩
 replace HO263 := bA (Kd.R_below (bRr HO263) hb)
 replace BK258 := bA (bB BK258 hb)
 replace BK259 := bA (bB BK259 hb)
 replace BK260 := bA (bB BK260 hb)
 replace HB := bA (bS hb)
 (try clear hb)
 refine hK.out _ _ ⟨bq BK259 0, bq BK259 1, bq BK258 0, bq BK258 1, bq BK260 0, bq BK260 1⟩ (fun hHeld => ?_)
 clear hK K
 refine bI 23 ?_
 refine one_ (i := 21) (N := some 34) #[true,true,true,true,true,true,true,true,true,true,true,true,true,true,true,true,true,true,true,true,true,true,false,false] rfl rfl (one_of HT_.out (by kernel_rfl)) (by decide) (fun K hK => ?_)
 refine goes_ Try.func84 (by kernel_rfl) rfl #[.int .i64 (wrap64 (a1_1 - a0_1)), .int .i64 (wrap64 (a2_0 - a0_0))] (by rfl) rfl rfl (by (try simp only [List.map_toArray, List.map_cons, List.map_nil]); first | done | rfl | (simp only [List.length_drop, List.length_take]; rfl)) ?_
 with_reducible refine (wide_Mul.calls (wrap64 (a1_1 - a0_1)) (wrap64 (a2_0 - a0_0)) t267 t268 _ A7.out).mono ?_
 rintro e w24 ⟨rfl, hb⟩
 refine ⟨_, rfl, ?_⟩
 replace HO263 := bA (Kd.R_below (bRr HO263) hb)
 replace BK258 := bA (bB BK258 hb)
 replace BK259 := bA (bB BK259 hb)
 replace BK260 := bA (bB BK260 hb)
 replace HB := bA (bS hb)
 (try clear hb)
 refine hK.out _ _ ⟨bq BK259 0, bq BK259 1, bq BK258 0, bq BK258 1, bq BK260 0, bq BK260 1⟩ (fun hHeld => ?_)
 clear hK K
 refine bI 34 ?_
 refine one_ (i := 22) (N := some 35) #[true,true,true,true,true,true,true,true,true,true,true,true,true,true,true,true,true,true,true,true,true,true,true,false] rfl rfl (one_of HT_.out (by kernel_rfl)) (by decide) (fun K hK => ?_)
 refine goes_ Try.func85 (by kernel_rfl) rfl #[.agg #[.int .i64 t265, .int .u64 t266], .agg #[.int .i64 t267, .int .u64 t268]] (by rfl) rfl rfl (by (try simp only [List.map_toArray, List.map_cons, List.map_nil]); first | done | rfl | (simp only [List.length_drop, List.length_take]; rfl)) ?_
 with_reducible refine (wide_Wide_Cmp.calls k t265 t266 t267 t268 t269 _ A8.out).mono ?_
 rintro e w25 ⟨rfl, hb⟩
 refine ⟨_, rfl, ?_⟩
 replace HO263 := bA (Kd.R_below (bRr HO263) hb)
 replace BK258 := bA (bB BK258 hb)
 replace BK259 := bA (bB BK259 hb)
 replace BK260 := bA (bB BK260 hb)
 replace HB := bA (bS hb)
 (try clear hb)
 refine hK.out _ _ ⟨bq BK259 0, bq BK259 1, bq BK258 0, bq BK258 1, bq BK260 0, bq BK260 1⟩ (fun hHeld => ?_)
 clear hK K
 refine bI 35 ?_
 refine bU (i := 23) (N := some 6) ?_
 refine done_ (done_of HT_.out (by kernel_rfl)) ?_
 try go_wp2
 go_ret
 exact bF
/-! ### point_between: function 86 -/
def point_between.f (a0 : Int) (a1 : Int) (a2 : Int) : Option (Bool) := if (mn a1 a2) ≤ a0 then (some (decide (a0 ≤ (mx a1 a2)))) else (some false)
set_option maxHeartbeats 8000000 in
set_option maxRecDepth 100000 in
theorem point_between.calls (a0 : Int) (a1 : Int) (a2 : Int) (r : Bool) (w : World) (h : point_between.f a0 a1 a2 = some r) :
  Calls Try.prog 86 #[.int .i64 a0, .int .i64 a1, .int .i64 a2] w fun e w' => e = .returned (.bool r) ∧ Below w.heap.size w w' := by
 have HB := bA (Below.refl w.heap.size w)
 have H : (if (mn a1 a2) ≤ a0 then (some (decide (a0 ≤ (mx a1 a2)))) else (some false)) = some r := h
 clear h
 obtain ⟨ji4, hji4⟩ : ∃ j_ : Int, (mn a1 a2) = j_ := ⟨_, rfl⟩
 replace H : (if (ji4) ≤ a0 then (some (decide (a0 ≤ (mx a1 a2)))) else (some false)) = some r := by first | (rw [hji4] at H; exact H) | (simp only [hji4] at H ⊢; exact H)
 have hji4_ : (if a2 < a1 then a2 else a1) = ji4 := hji4
 by_cases c5 : (ji4) ≤ a0
 rw [if_pos c5] at H
 have c5b0 : decide ((ji4) ≤ a0) = true := decide_eq_true c5
 clear c5
 obtain ⟨ji6, hji6⟩ : ∃ j_ : Int, (mx a1 a2) = j_ := ⟨_, rfl⟩
 replace H : (some (decide (a0 ≤ (ji6)))) = some r := by first | (rw [hji6] at H; exact H) | (simp only [hji6] at H ⊢; exact H)
 have hji6_ : (if a1 < a2 then a2 else a1) = ji6 := hji6
 obtain rfl := Option.some.inj H
 rotate_left
 rw [if_neg c5] at H
 have c5b0 : decide ((ji4) ≤ a0) = false := decide_eq_false c5
 clear c5
 obtain rfl := Option.some.inj H
 rotate_left
 all_goals go_enter Try.func86, Try.ntmps86
 all_goals go_wp2
 ·go_ret
  exact ⟨by first | rfl | (simp [errW_none, errW_some] <;> rfl) | (simp only [← hji4, ← hji6]; first | rfl | (simp [errW_none, errW_some] <;> rfl)) | (simp [*, errW_none, errW_some] <;> rfl), by repeat (first | (with_reducible first | exact HB.out | apply below_alloc | apply pw_below_drewN | apply below_drew1) | exact HB.out)⟩
 go_ret
 exact ⟨by first | rfl | (simp [errW_none, errW_some] <;> rfl) | (simp only [← hji4]; first | rfl | (simp [errW_none, errW_some] <;> rfl)) | (simp [*, errW_none, errW_some] <;> rfl), by repeat (first | (with_reducible first | exact HB.out | apply below_alloc | apply pw_below_drewN | apply below_drew1) | exact HB.out)⟩
/-! ### point_On: function 77 -/
def point_On.f (k : Nat) (a0_0 : Int) (a0_1 : Int) (a1_0 : Int) (a1_1 : Int) (a2_0 : Int) (a2_1 : Int) : Option (Bool) := (point_right.f k (([(⟨a0_0, a0_1⟩ : S28), (⟨a1_0, a1_1⟩ : S28), (⟨a2_0, a2_1⟩ : S28)] : List (S28)))).bind fun t276 => (if t276 = true then ((point_Turn.f k a1_0 a1_1 a2_0 a2_1 a0_0 a0_1).bind fun t277 => (if t277 = 0 then ((point_between.f a0_0 a1_0 a2_0).bind fun t278 => (if t278 = true then ((point_between.f a0_1 a1_1 a2_1).bind fun t279 => (some t279)) else (some false))) else (some false))) else (some false))
theorem point_On.mono : ∀ a0 a1 a2 a3 a4 a5 k, LeO (point_On.f k a0 a1 a2 a3 a4 a5) (point_On.f (k + 1) a0 a1 a2 a3 a4 a5) := by
 intro a0 a1 a2 a3 a4 a5 k
 unfold point_On.f
 have m0_ := @point_Turn.mono
 have m1_ := @point_right.mono
 exact bMo
set_option maxHeartbeats 8000000 in
set_option maxRecDepth 100000 in
theorem point_On.calls (k : Nat) (a0_0 : Int) (a0_1 : Int) (a1_0 : Int) (a1_1 : Int) (a2_0 : Int) (a2_1 : Int) (r : Bool) (w : World) (h : point_On.f k a0_0 a0_1 a1_0 a1_1 a2_0 a2_1 = some r) :
  Calls Try.prog 77 #[.agg #[.int .i64 a0_0, .int .i64 a0_1], .agg #[.int .i64 a1_0, .int .i64 a1_1], .agg #[.int .i64 a2_0, .int .i64 a2_1]] w fun e w' => e = .returned (.bool r) ∧ Below w.heap.size w w' := by
 have hu28 := Try.underlying28
 have HB := bA (Below.refl w.heap.size w)
 have H : ((point_right.f k (([(⟨a0_0, a0_1⟩ : S28), (⟨a1_0, a1_1⟩ : S28), (⟨a2_0, a2_1⟩ : S28)] : List (S28)))).bind fun t276 => (if t276 = true then ((point_Turn.f k a1_0 a1_1 a2_0 a2_1 a0_0 a0_1).bind fun t277 => (if t277 = 0 then ((point_between.f a0_0 a1_0 a2_0).bind fun t278 => (if t278 = true then ((point_between.f a0_1 a1_1 a2_1).bind fun t279 => (some t279)) else (some false))) else (some false))) else (some false))) = some r := h
 clear h
 obtain ⟨y273, hy273⟩ : ∃ y_ : List (S28), y_ = (([(⟨a0_0, a0_1⟩ : S28), (⟨a1_0, a1_1⟩ : S28), (⟨a2_0, a2_1⟩ : S28)] : List (S28))) := ⟨_, rfl⟩
 replace H : ((point_right.f k y273).bind fun t276 => (if t276 = true then ((point_Turn.f k a1_0 a1_1 a2_0 a2_1 a0_0 a0_1).bind fun t277 => (if t277 = 0 then ((point_between.f a0_0 a1_0 a2_0).bind fun t278 => (if t278 = true then ((point_between.f a0_1 a1_1 a2_1).bind fun t279 => (some t279)) else (some false))) else (some false))) else (some false))) = some r := by first | (rw [hy273]; with_reducible exact H) | (have H2_ := (Option.bind_some _ _).symm.trans H; rw [hy273]; with_reducible exact H2_) | (have H2_ := (Option.bind_some _ _).symm.trans H; with_reducible exact H2_) | with_reducible exact H | (rw [hy273]; exact H) | exact H
 have Ny273 := bA hy273
 clear hy273
 replace H := Option.bind_eq_some_iff.mp H
 obtain ⟨t276, A40, H⟩ := H
 have A4 := bA A40
 clear A40
 by_cases c5 : t276 = true
 subst c5
 rw [if_pos rfl] at H
 replace H := Option.bind_eq_some_iff.mp H
 obtain ⟨t277, A60, H⟩ := H
 have A6 := bA A60
 clear A60
 by_cases c7 : t277 = 0
 rw [if_pos c7] at H
 have c7b0 : (t277 == 0) = true := beq_iff_eq.mpr c7
 have c7b1 : (t277 != 0) = false := bne_eq_false_iff_eq.mpr c7
 clear c7
 replace H := Option.bind_eq_some_iff.mp H
 obtain ⟨t278, A80, H⟩ := H
 have A8 := bA A80
 clear A80
 by_cases c9 : t278 = true
 subst c9
 rw [if_pos rfl] at H
 replace H := Option.bind_eq_some_iff.mp H
 obtain ⟨t279, A100, H⟩ := H
 have A10 := bA A100
 clear A100
 obtain rfl := Option.some.inj H
 rotate_left
 replace c9 := Bool.eq_false_iff.mpr c9
 subst c9
 rw [if_neg bn] at H
 obtain rfl := Option.some.inj H
 rotate_left
 rw [if_neg c7] at H
 have c7b0 : (t277 == 0) = false := beq_eq_false_iff_ne.mpr c7
 have c7b1 : (t277 != 0) = true := bne_iff_ne.mpr c7
 obtain rfl := Option.some.inj H
 rotate_left
 replace c5 := Bool.eq_false_iff.mpr c5
 subst c5
 rw [if_neg bn] at H
 obtain rfl := Option.some.inj H
 rotate_left
 all_goals go_enter Try.func77, Try.ntmps77
 all_goals go_wp2_with (first | ((with_reducible refine gate_dst (N := 3) rfl ?_); refine bE (N := 3) (cs := #[.int .i64 a0_0, .int .i64 a0_1]) (t := 28) ?_; intro gb270 hg wz0 hbox hb; have BK270 := bA (hbox); have GW270 := bA (bZ hg); have GE270 := bA (bZ hg); replace HB := bA (bS hb); clear hb hbox hg) | ((with_reducible refine gate_dst (N := 4) rfl ?_); refine bE (N := 4) (cs := #[.int .i64 a1_0, .int .i64 a1_1]) (t := 28) ?_; intro gb271 hg wz1 hbox hb; have BK271 := bA (hbox); have GW271 := bA (bZ hg); have GE271 := bA (bZ hg); have NB270_271 := bA (bL BK270 hg); have NB271_270 := bA (bG BK270 hg); replace BK270 := bA (bB BK270 hb); replace HB := bA (bS hb); clear hb hbox hg) | ((with_reducible refine gate_dst (N := 5) rfl ?_); refine bE (N := 5) (cs := #[.int .i64 a2_0, .int .i64 a2_1]) (t := 28) ?_; intro gb272 hg wz2 hbox hb; have BK272 := bA (hbox); have GW272 := bA (bZ hg); have GE272 := bA (bZ hg); have NB270_272 := bA (bL BK270 hg); have NB272_270 := bA (bG BK270 hg); have NB271_272 := bA (bL BK271 hg); have NB272_271 := bA (bG BK271 hg); replace BK270 := bA (bB BK270 hb); replace BK271 := bA (bB BK271 hb); replace HB := bA (bS hb); clear hb hbox hg; have hz1 := NB270_271.out; have hz2 := NB271_270.out; have hz3 := NB270_272.out; have hz4 := NB272_270.out; obtain ⟨hz5, hz6, hz7, hz8⟩ := bc2 BK270; have hz9 := NB271_272.out; have hz10 := NB272_271.out; obtain ⟨hz11, hz12, hz13, hz14⟩ := bc2 BK271; obtain ⟨hz15, hz16, hz17, hz18⟩ := bc2 BK272) | ((with_reducible refine gate_dst (N := 10) rfl ?_); refine Kd.R_lit k28 _ 28 ?hg (N := 10) ?hd (xs := ([(⟨a0_0, a0_1⟩ : S28), (⟨a1_0, a1_1⟩ : S28), (⟨a2_0, a2_1⟩ : S28)] : List (S28))) (inner := [.int .i64 a0_0, .int .i64 a0_1, .int .i64 a1_0, .int .i64 a1_1, .int .i64 a2_0, .int .i64 a2_1]) (ok := fun _ => True) (okp := fun _ => True) ?hr ?hp (fun _ hk => hk) trivial (Below.refl _ _) (Nat.le_refl _) (by simp) ?_; (case hd => rfl); (case hg => rfl); (case hr => first | (go_simp; done) | (go_simp; rfl)); (case hp => exact (Reps.c2 (show Kd.M k28 _ _ _ (⟨a0_0, a0_1⟩ : S28) [.int .i64 a0_0, .int .i64 a0_1] from (k28_mkM _ _ _ (⟨a0_0, a0_1⟩ : S28) )) (Reps.c2 (show Kd.M k28 _ _ _ (⟨a1_0, a1_1⟩ : S28) [.int .i64 a1_0, .int .i64 a1_1] from (k28_mkM _ _ _ (⟨a1_0, a1_1⟩ : S28) )) (Reps.c2 (show Kd.M k28 _ _ _ (⟨a2_0, a2_1⟩ : S28) [.int .i64 a2_0, .int .i64 a2_1] from (k28_mkM _ _ _ (⟨a2_0, a2_1⟩ : S28) )) (Reps.none _ _))))); intro v274 wz3 ho21 hb hg_ hnew_; clear hg_ hnew_; (first | rw [← Ny273.out] at ho21 | (simp only [Int.reduceToNat] at ho21; rw [← Ny273.out] at ho21)); have HO275 := bA (Kd.R_lower (bN (bN (bN ho21 BK270) BK271) BK272) bY); replace BK270 := bA (bB BK270 hb); replace BK271 := bA (bB BK271 hb); replace BK272 := bA (bB BK272 hb); replace HB := bA (bS hb); clear hb ho21; obtain ⟨Aoz4, coz5, eoz6⟩ := Kd.R_slice HO275.out; subst eoz6) | ((first | ((with_reducible refine gate_callee (f := 83) rfl ?_); refine bC (some 11) Try.func83 #[.slice Aoz4 y273.length coz5] ?_) | go_at_call 83); (with_reducible refine (point_right.calls k _ _ y273 true _ ?side1 ?side2 A4.out).mono ?_); (case side1 => repeat (first | exact (Kd.R_reads' HO275.out).2.2 | (with_reducible refine Kd.C_alloc ?_ _) | (with_reducible refine Kd.C_drewN ?_ _) | (with_reducible refine Kd.C_drew ?_))); (case side2 => exact (Kd.R_reads' HO275.out).2.1); rintro e wz7 ⟨rfl, hb⟩; (first | refine ⟨_, rfl, ?_⟩ | skip); replace HO275 := bA (Kd.R_below (bRr HO275) hb); replace BK270 := bA (bB BK270 hb); replace BK271 := bA (bB BK271 hb); replace BK272 := bA (bB BK272 hb); replace HB := bA (bS hb); (try clear hb); obtain ⟨hz19, hz20, hz13, hz14⟩ := bc2 BK271; obtain ⟨hz21, hz22, hz17, hz18⟩ := bc2 BK272; obtain ⟨hz23, hz24, hz7, hz8⟩ := bc2 BK270) | (go_at_call 73; (with_reducible refine (point_Turn.calls k a1_0 a1_1 a2_0 a2_1 a0_0 a0_1 t277 _ A6.out).mono ?_); rintro e wz8 ⟨rfl, hb⟩; replace HO275 := bA (Kd.R_below (bRr HO275) hb); replace BK270 := bA (bB BK270 hb); replace BK271 := bA (bB BK271 hb); replace BK272 := bA (bB BK272 hb); replace HB := bA (bS hb); (try clear hb); obtain ⟨hz25, hz26, hz7, hz8⟩ := bc2 BK270; obtain ⟨hz27, hz28, hz13, hz14⟩ := bc2 BK271; obtain ⟨hz29, hz30, hz17, hz18⟩ := bc2 BK272) | (go_at_call 86; (with_reducible refine (point_between.calls a0_0 a1_0 a2_0 true _ A8.out).mono ?_); rintro e wz9 ⟨rfl, hb⟩; replace HO275 := bA (Kd.R_below (bRr HO275) hb); replace BK270 := bA (bB BK270 hb); replace BK271 := bA (bB BK271 hb); replace BK272 := bA (bB BK272 hb); replace HB := bA (bS hb); (try clear hb); obtain ⟨hz31, hz32, hz7, hz8⟩ := bc2 BK270; obtain ⟨hz33, hz34, hz13, hz14⟩ := bc2 BK271; obtain ⟨hz35, hz36, hz17, hz18⟩ := bc2 BK272) | (go_at_call 86; (with_reducible refine (point_between.calls a0_1 a1_1 a2_1 t279 _ A10.out).mono ?_); rintro e wz10 ⟨rfl, hb⟩; replace HO275 := bA (Kd.R_below (bRr HO275) hb); replace BK270 := bA (bB BK270 hb); replace BK271 := bA (bB BK271 hb); replace BK272 := bA (bB BK272 hb); replace HB := bA (bS hb); (try clear hb)) | ((with_reducible refine gate_dst (N := 10) rfl ?_); refine Kd.R_lit k28 _ 28 ?hg (N := 10) ?hd (xs := ([(⟨a0_0, a0_1⟩ : S28), (⟨a1_0, a1_1⟩ : S28), (⟨a2_0, a2_1⟩ : S28)] : List (S28))) (inner := [.int .i64 a0_0, .int .i64 a0_1, .int .i64 a1_0, .int .i64 a1_1, .int .i64 a2_0, .int .i64 a2_1]) (ok := fun _ => True) (okp := fun _ => True) ?hr ?hp (fun _ hk => hk) trivial (Below.refl _ _) (Nat.le_refl _) (by simp) ?_; (case hd => rfl); (case hg => rfl); (case hr => first | (go_simp; done) | (go_simp; rfl)); (case hp => exact (Reps.c2 (show Kd.M k28 _ _ _ (⟨a0_0, a0_1⟩ : S28) [.int .i64 a0_0, .int .i64 a0_1] from (k28_mkM _ _ _ (⟨a0_0, a0_1⟩ : S28) )) (Reps.c2 (show Kd.M k28 _ _ _ (⟨a1_0, a1_1⟩ : S28) [.int .i64 a1_0, .int .i64 a1_1] from (k28_mkM _ _ _ (⟨a1_0, a1_1⟩ : S28) )) (Reps.c2 (show Kd.M k28 _ _ _ (⟨a2_0, a2_1⟩ : S28) [.int .i64 a2_0, .int .i64 a2_1] from (k28_mkM _ _ _ (⟨a2_0, a2_1⟩ : S28) )) (Reps.none _ _))))); intro v274 wz3 ho46 hb hg_ hnew_; clear hg_ hnew_; (first | rw [← Ny273.out] at ho46 | (simp only [Int.reduceToNat] at ho46; rw [← Ny273.out] at ho46)); have HO275 := bA (Kd.R_lower (bN (bN (bN ho46 BK270) BK271) BK272) bY); replace BK270 := bA (bB BK270 hb); replace BK271 := bA (bB BK271 hb); replace BK272 := bA (bB BK272 hb); replace HB := bA (bS hb); clear hb ho46; obtain ⟨Aoz4, coz5, eoz6⟩ := Kd.R_slice HO275.out; subst eoz6) | (go_at_call 86; (with_reducible refine (point_between.calls a0_0 a1_0 a2_0 false _ A8.out).mono ?_); rintro e wz9 ⟨rfl, hb⟩; replace HO275 := bA (Kd.R_below (bRr HO275) hb); replace BK270 := bA (bB BK270 hb); replace BK271 := bA (bB BK271 hb); replace BK272 := bA (bB BK272 hb); replace HB := bA (bS hb); (try clear hb)) | ((with_reducible refine gate_dst (N := 10) rfl ?_); refine Kd.R_lit k28 _ 28 ?hg (N := 10) ?hd (xs := ([(⟨a0_0, a0_1⟩ : S28), (⟨a1_0, a1_1⟩ : S28), (⟨a2_0, a2_1⟩ : S28)] : List (S28))) (inner := [.int .i64 a0_0, .int .i64 a0_1, .int .i64 a1_0, .int .i64 a1_1, .int .i64 a2_0, .int .i64 a2_1]) (ok := fun _ => True) (okp := fun _ => True) ?hr ?hp (fun _ hk => hk) trivial (Below.refl _ _) (Nat.le_refl _) (by simp) ?_; (case hd => rfl); (case hg => rfl); (case hr => first | (go_simp; done) | (go_simp; rfl)); (case hp => exact (Reps.c2 (show Kd.M k28 _ _ _ (⟨a0_0, a0_1⟩ : S28) [.int .i64 a0_0, .int .i64 a0_1] from (k28_mkM _ _ _ (⟨a0_0, a0_1⟩ : S28) )) (Reps.c2 (show Kd.M k28 _ _ _ (⟨a1_0, a1_1⟩ : S28) [.int .i64 a1_0, .int .i64 a1_1] from (k28_mkM _ _ _ (⟨a1_0, a1_1⟩ : S28) )) (Reps.c2 (show Kd.M k28 _ _ _ (⟨a2_0, a2_1⟩ : S28) [.int .i64 a2_0, .int .i64 a2_1] from (k28_mkM _ _ _ (⟨a2_0, a2_1⟩ : S28) )) (Reps.none _ _))))); intro v274 wz3 ho67 hb hg_ hnew_; clear hg_ hnew_; (first | rw [← Ny273.out] at ho67 | (simp only [Int.reduceToNat] at ho67; rw [← Ny273.out] at ho67)); have HO275 := bA (Kd.R_lower (bN (bN (bN ho67 BK270) BK271) BK272) bY); replace BK270 := bA (bB BK270 hb); replace BK271 := bA (bB BK271 hb); replace BK272 := bA (bB BK272 hb); replace HB := bA (bS hb); clear hb ho67; obtain ⟨Aoz4, coz5, eoz6⟩ := Kd.R_slice HO275.out; subst eoz6) | ((with_reducible refine gate_dst (N := 10) rfl ?_); refine Kd.R_lit k28 _ 28 ?hg (N := 10) ?hd (xs := ([(⟨a0_0, a0_1⟩ : S28), (⟨a1_0, a1_1⟩ : S28), (⟨a2_0, a2_1⟩ : S28)] : List (S28))) (inner := [.int .i64 a0_0, .int .i64 a0_1, .int .i64 a1_0, .int .i64 a1_1, .int .i64 a2_0, .int .i64 a2_1]) (ok := fun _ => True) (okp := fun _ => True) ?hr ?hp (fun _ hk => hk) trivial (Below.refl _ _) (Nat.le_refl _) (by simp) ?_; (case hd => rfl); (case hg => rfl); (case hr => first | (go_simp; done) | (go_simp; rfl)); (case hp => exact (Reps.c2 (show Kd.M k28 _ _ _ (⟨a0_0, a0_1⟩ : S28) [.int .i64 a0_0, .int .i64 a0_1] from (k28_mkM _ _ _ (⟨a0_0, a0_1⟩ : S28) )) (Reps.c2 (show Kd.M k28 _ _ _ (⟨a1_0, a1_1⟩ : S28) [.int .i64 a1_0, .int .i64 a1_1] from (k28_mkM _ _ _ (⟨a1_0, a1_1⟩ : S28) )) (Reps.c2 (show Kd.M k28 _ _ _ (⟨a2_0, a2_1⟩ : S28) [.int .i64 a2_0, .int .i64 a2_1] from (k28_mkM _ _ _ (⟨a2_0, a2_1⟩ : S28) )) (Reps.none _ _))))); intro v274 wz3 ho84 hb hg_ hnew_; clear hg_ hnew_; (first | rw [← Ny273.out] at ho84 | (simp only [Int.reduceToNat] at ho84; rw [← Ny273.out] at ho84)); have HO275 := bA (Kd.R_lower (bN (bN (bN ho84 BK270) BK271) BK272) bY); replace BK270 := bA (bB BK270 hb); replace BK271 := bA (bB BK271 hb); replace BK272 := bA (bB BK272 hb); replace HB := bA (bS hb); clear hb ho84; obtain ⟨Aoz4, coz5, eoz6⟩ := Kd.R_slice HO275.out; subst eoz6) | ((first | ((with_reducible refine gate_callee (f := 83) rfl ?_); refine bC (some 11) Try.func83 #[.slice Aoz4 y273.length coz5] ?_) | go_at_call 83); (with_reducible refine (point_right.calls k _ _ y273 false _ ?side1 ?side2 A4.out).mono ?_); (case side1 => repeat (first | exact (Kd.R_reads' HO275.out).2.2 | (with_reducible refine Kd.C_alloc ?_ _) | (with_reducible refine Kd.C_drewN ?_ _) | (with_reducible refine Kd.C_drew ?_))); (case side2 => exact (Kd.R_reads' HO275.out).2.1); rintro e wz7 ⟨rfl, hb⟩; (first | refine ⟨_, rfl, ?_⟩ | skip); replace HO275 := bA (Kd.R_below (bRr HO275) hb); replace BK270 := bA (bB BK270 hb); replace BK271 := bA (bB BK271 hb); replace BK272 := bA (bB BK272 hb); replace HB := bA (bS hb); (try clear hb)))
 all_goals (go_ret; exact bF)
end Go.Proofs.Ytfeekdoakoabeaa.G
