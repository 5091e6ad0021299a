-- Written by a program of this session out of the translation; Lean checks it.
import Derived.Test.YtlifeghjcgbfnaaGx0
import Derived.Test.YtlifeghjcgbfnaaGx8
namespace Go.Proofs.Ytlifeghjcgbfnaa.G
open Go.RowKit Go.Proofs.YtlifeghjcgbfnaaW.PrintWords Go.Proofs.YtlifeghjcgbfnaaW.PrintLast Go.Proofs.YtlifeghjcgbfnaaW.PrintMore
attribute [local go_sem] max2_int min2_int max_two min_two max_three min_three max_four min_four   -- for this text's walks alone
set_option linter.unusedVariables false
set_option linter.unusedSimpArgs false

/-! ### point_Turn: function 18 -/
def point_Turn.f (k : Nat) (a0_0 : Int) (a0_1 : Int) (a1_0 : Int) (a1_1 : Int) (a2_0 : Int) (a2_1 : Int) : Option (Int) := (point_right.f k (([(⟨a0_0, a0_1⟩ : S31), (⟨a1_0, a1_1⟩ : S31), (⟨a2_0, a2_1⟩ : S31)] : List (S31)))).bind fun t235 => (if t235 = true then ((wide_Mul.f (wrap64 (a1_0 - a0_0)) (wrap64 (a2_1 - a0_1))).bind fun bt236 => ((wide_Mul.f (wrap64 (a1_1 - a0_1)) (wrap64 (a2_0 - a0_0))).bind fun bt238 => ((wide_Wide_Cmp.f k bt236.1 bt236.2 bt238.1 bt238.2).bind fun t240 => (some t240)))) else (some 0))
theorem point_Turn.mono : ∀ a0 a1 a2 a3 a4 a5 k, LeO (point_Turn.f k a0 a1 a2 a3 a4 a5) (point_Turn.f (k + 1) a0 a1 a2 a3 a4 a5) := by
 intro a0 a1 a2 a3 a4 a5 k
 unfold point_Turn.f
 repeat' first
   | (with_reducible exact point_right.mono _ _)
   | (with_reducible exact wide_Wide_Cmp.mono _ _ _ _ _)
   | (with_reducible exact LeO.refl _)
   | (with_reducible exact LeO.none _)
   | (with_reducible refine LeO.ite ?_ ?_)
   | (with_reducible refine LeO.bind ?_ (fun _ => ?_))
   | exact point_right.mono _ _
   | exact wide_Wide_Cmp.mono _ _ _ _ _
   | exact LeO.none _
   | refine LeO.ite ?_ ?_
   | refine LeO.bind ?_ (fun _ => ?_)
def point_Turn.T3 : Bool × List (List Nat × List Nat) := (true, [([], []), ([0], [0]), ([], []), ([2], [2]), ([1, 3], [1, 3]), ([], []), ([5], [5]), ([], []), ([7], [7]), ([6, 8], [6, 8]), ([4, 9], [4, 9]), ([], []), ([11], [11]), ([], []), ([13], [13]), ([12, 14], [12, 14]), ([], []), ([16], [16]), ([], []), ([18], [18]), ([17, 19], [17, 19]), ([15, 20, 10], [15, 20]), ([10, 21, 21], [10, 21]), ([22, 22, 0, 1, 2, 3, 4, 5, 6, 7, 8, 9, 10, 11, 12, 13, 14, 15, 16, 17, 18, 19, 20, 21, 22], [22])])
def point_Turn.B3 : List Nat := [0, 1, 0, 4, 15, 0, 32, 0, 128, 480, 1023, 0, 2048, 0, 8192, 30720, 0, 65536, 0, 262144, 983040, 2097151, 4194303, 8388607]
theorem point_Turn.tab3 : rtab .any (opsOf Try.f18 3) = point_Turn.T3 := by kernel_rfl
theorem point_Turn.bits3 : waitsOk point_Turn.T3.2 point_Turn.B3 = true := by kernel_rfl
set_option maxHeartbeats 8000000 in
set_option maxRecDepth 100000 in
theorem point_Turn.calls (k : Nat) (a0_0 : Int) (a0_1 : Int) (a1_0 : Int) (a1_1 : Int) (a2_0 : Int) (a2_1 : Int) (r : Int) (w : World) (h : point_Turn.f k a0_0 a0_1 a1_0 a1_1 a2_0 a2_1 = some r) :
  Calls Try.prog 18 #[.agg #[.int .i64 a0_0, .int .i64 a0_1], .agg #[.int .i64 a1_0, .int .i64 a1_1], .agg #[.int .i64 a2_0, .int .i64 a2_1]] w fun e w' => e = .returned (.int .i64 r) ∧ Below w.heap.size w w' := by
 have hu31 := Try.underlying31
 have HB := bA (Below.refl w.heap.size w)
 have H : ((point_right.f k (([(⟨a0_0, a0_1⟩ : S31), (⟨a1_0, a1_1⟩ : S31), (⟨a2_0, a2_1⟩ : S31)] : List (S31)))).bind fun t235 => (if t235 = true then ((wide_Mul.f (wrap64 (a1_0 - a0_0)) (wrap64 (a2_1 - a0_1))).bind fun bt236 => ((wide_Mul.f (wrap64 (a1_1 - a0_1)) (wrap64 (a2_0 - a0_0))).bind fun bt238 => ((wide_Wide_Cmp.f k bt236.1 bt236.2 bt238.1 bt238.2).bind fun t240 => (some t240)))) else (some 0))) = some r := h
 clear h
 obtain ⟨y232, hy232⟩ : ∃ y_ : List (S31), y_ = (([(⟨a0_0, a0_1⟩ : S31), (⟨a1_0, a1_1⟩ : S31), (⟨a2_0, a2_1⟩ : S31)] : List (S31))) := ⟨_, rfl⟩
 replace H : ((point_right.f k y232).bind fun t235 => (if t235 = true then ((wide_Mul.f (wrap64 (a1_0 - a0_0)) (wrap64 (a2_1 - a0_1))).bind fun bt236 => ((wide_Mul.f (wrap64 (a1_1 - a0_1)) (wrap64 (a2_0 - a0_0))).bind fun bt238 => ((wide_Wide_Cmp.f k bt236.1 bt236.2 bt238.1 bt238.2).bind fun t240 => (some t240)))) else (some 0))) = some r := by first | (rw [hy232]; with_reducible exact H) | (have H2_ := (Option.bind_some _ _).symm.trans H; rw [hy232]; with_reducible exact H2_) | (have H2_ := (Option.bind_some _ _).symm.trans H; with_reducible exact H2_) | with_reducible exact H | (rw [hy232]; exact H) | exact H
 have Ny232 := bA hy232
 clear hy232
 replace H := Option.bind_eq_some_iff.mp H
 obtain ⟨t235, A40, H⟩ := H
 replace H : (if t235 = true then ((wide_Mul.f (wrap64 (a1_0 - a0_0)) (wrap64 (a2_1 - a0_1))).bind fun bt236 => ((wide_Mul.f (wrap64 (a1_1 - a0_1)) (wrap64 (a2_0 - a0_0))).bind fun bt238 => ((wide_Wide_Cmp.f k bt236.1 bt236.2 bt238.1 bt238.2).bind fun t240 => (some t240)))) else (some 0)) = some r := H
 have A4 := bA A40
 clear A40
 by_cases c5 : t235 = true
 ·subst c5
  rw [if_pos rfl] at H
  replace H := Option.bind_eq_some_iff.mp H
  obtain ⟨⟨t236, t237⟩, A60, H⟩ := H
  replace H : ((wide_Mul.f (wrap64 (a1_1 - a0_1)) (wrap64 (a2_0 - a0_0))).bind fun bt238 => ((wide_Wide_Cmp.f k t236 t237 bt238.1 bt238.2).bind fun t240 => (some t240))) = some r := H
  have A6 := bA A60
  clear A60
  replace H := Option.bind_eq_some_iff.mp H
  obtain ⟨⟨t238, t239⟩, A70, H⟩ := H
  replace H : ((wide_Wide_Cmp.f k t236 t237 t238 t239).bind fun t240 => (some t240)) = some r := H
  have A7 := bA A70
  clear A70
  replace H := Option.bind_eq_some_iff.mp H
  obtain ⟨t240, A80, H⟩ := H
  replace H : (some t240) = some r := H
  have A8 := bA A80
  clear A80
  obtain rfl := Option.some.inj H
  go_enter Try.func18, Try.ntmps18
  try go_wp2_with (first | ((with_reducible refine gate_dst (N := 3) rfl ?_); refine bE (N := 3) (cs := #[.int .i64 a0_0, .int .i64 a0_1]) (t := 31) ?_; intro gb229 hg w9 hbox hb; have n0_ := bA (bS hb); have n1_ := bA (hbox); have n2_ := bA ((bZ hg : w.heap.size ≤ gb229)); have n3_ := bA ((bZ hg : w.heap.size ≤ gb229)); clear HB; have HB := n0_; have BK229 := n1_; have GW229 := n2_; have GE229 := n3_; clear n0_ n1_ n2_ n3_; clear hb hbox hg) | ((with_reducible refine gate_dst (N := 4) rfl ?_); refine bE (N := 4) (cs := #[.int .i64 a1_0, .int .i64 a1_1]) (t := 31) ?_; intro gb230 hg w10 hbox hb; have n0_ := bA (bB BK229 hb); have n1_ := bA (bS hb); have n2_ := bA (hbox); have n3_ := bA ((bZ hg : w.heap.size ≤ gb230)); have n4_ := bA ((bZ hg : w.heap.size ≤ gb230)); have n5_ := bA ((bL BK229 hg : gb229 ≠ gb230)); have n6_ := bA ((bG BK229 hg : gb230 ≠ gb229)); clear BK229; clear HB; have BK229 := n0_; have HB := n1_; have BK230 := n2_; have GW230 := n3_; have GE230 := n4_; have NB229_230 := n5_; have NB230_229 := n6_; clear n0_ n1_ n2_ n3_ n4_ n5_ n6_; clear hb hbox hg) | ((with_reducible refine gate_dst (N := 5) rfl ?_); refine bE (N := 5) (cs := #[.int .i64 a2_0, .int .i64 a2_1]) (t := 31) ?_; intro gb231 hg w11 hbox hb; have n0_ := bA (bB BK229 hb); have n1_ := bA (bB BK230 hb); have n2_ := bA (bS hb); have n3_ := bA (hbox); have n4_ := bA ((bZ hg : w.heap.size ≤ gb231)); have n5_ := bA ((bZ hg : w.heap.size ≤ gb231)); have n6_ := bA ((bL BK229 hg : gb229 ≠ gb231)); have n7_ := bA ((bG BK229 hg : gb231 ≠ gb229)); have n8_ := bA ((bL BK230 hg : gb230 ≠ gb231)); have n9_ := bA ((bG BK230 hg : gb231 ≠ gb230)); clear BK229; clear BK230; clear HB; have BK229 := n0_; have BK230 := n1_; have HB := n2_; have BK231 := n3_; have GW231 := n4_; have GE231 := n5_; have NB229_231 := n6_; have NB231_229 := n7_; have NB230_231 := n8_; have NB231_230 := n9_; clear n0_ n1_ n2_ n3_ n4_ n5_ n6_ n7_ n8_ n9_; clear hb hbox hg; have hnb12 := NB229_230.out; have hnc12 := NB230_229.out; have hnb13 := NB229_231.out; have hnc13 := NB231_229.out; have hcz14_0 : w11.cell? ⟨gb229, 0, none⟩ = some (.int .i64 a0_0) := (blk_cell BK229.out 0).trans rfl; have hcz14_1 : w11.cell? ⟨gb229, 1, none⟩ = some (.int .i64 a0_1) := (blk_cell BK229.out 1).trans rfl; have hfz14_0 := blk_frozen BK229.out 0; have hfz14_1 := blk_frozen BK229.out 1; have hnb15 := NB230_231.out; have hnc15 := NB231_230.out; have hcz16_0 : w11.cell? ⟨gb230, 0, none⟩ = some (.int .i64 a1_0) := (blk_cell BK230.out 0).trans rfl; have hcz16_1 : w11.cell? ⟨gb230, 1, none⟩ = some (.int .i64 a1_1) := (blk_cell BK230.out 1).trans rfl; have hfz16_0 := blk_frozen BK230.out 0; have hfz16_1 := blk_frozen BK230.out 1; have hcz17_0 : w11.cell? ⟨gb231, 0, none⟩ = some (.int .i64 a2_0) := (blk_cell BK231.out 0).trans rfl; have hcz17_1 : w11.cell? ⟨gb231, 1, none⟩ = some (.int .i64 a2_1) := (blk_cell BK231.out 1).trans rfl; have hfz17_0 := blk_frozen BK231.out 0; have hfz17_1 := blk_frozen BK231.out 1) | ((with_reducible refine gate_dst (N := 10) rfl ?_); refine Kd.R_lit k31 _ 31 ?hg (N := 10) ?hd (xs := ([(⟨a0_0, a0_1⟩ : S31), (⟨a1_0, a1_1⟩ : S31), (⟨a2_0, a2_1⟩ : S31)] : List (S31))) (inner := [.int .i64 a0_0, .int .i64 a0_1, .int .i64 a1_0, .int .i64 a1_1, .int .i64 a2_0, .int .i64 a2_1]) (ok := fun _ => True) (okp := fun _ => True) ?hr ?hp (fun _ hk => hk) trivial (Below.refl _ _) (Nat.le_refl _) (by simp) ?_; (case hd => rfl); (case hg => rfl); (case hr => first | (go_simp; done) | (go_simp; rfl)); (case hp => exact (Reps.c2 (show Kd.M k31 _ _ _ (⟨a0_0, a0_1⟩ : S31) [.int .i64 a0_0, .int .i64 a0_1] from (k31_mkM _ _ _ (⟨a0_0, a0_1⟩ : S31) )) (Reps.c2 (show Kd.M k31 _ _ _ (⟨a1_0, a1_1⟩ : S31) [.int .i64 a1_0, .int .i64 a1_1] from (k31_mkM _ _ _ (⟨a1_0, a1_1⟩ : S31) )) (Reps.c2 (show Kd.M k31 _ _ _ (⟨a2_0, a2_1⟩ : S31) [.int .i64 a2_0, .int .i64 a2_1] from (k31_mkM _ _ _ (⟨a2_0, a2_1⟩ : S31) )) (Reps.none _ _))))); intro v233 w18 ho19 hb hg_ hnew_; clear hg_ hnew_; (first | rw [← Ny232.out] at ho19 | (simp only [Int.reduceToNat] at ho19; rw [← Ny232.out] at ho19)); have n0_ := bA (Kd.R_lower (bN (bN (bN ho19 BK229) BK230) BK231) bY); have n1_ := bA (bB BK229 hb); have n2_ := bA (bB BK230 hb); have n3_ := bA (bB BK231 hb); have n4_ := bA (bS hb); clear BK229; clear BK230; clear BK231; clear HB; have HO234 := n0_; have BK229 := n1_; have BK230 := n2_; have BK231 := n3_; have HB := n4_; clear n0_ n1_ n2_ n3_ n4_; clear hb ho19; obtain ⟨Ao20, co20, eo20⟩ := Kd.R_slice HO234.out; subst eo20) | ((first | ((with_reducible refine gate_callee (f := 39) rfl ?_); refine bC (some 11) Try.func39 #[.slice Ao20 y232.length co20] ?_) | go_at_call 39); (with_reducible refine (point_right.calls k _ _ y232 true _ ?side1 ?side2 A4.out).mono ?_); (case side1 => repeat (first | exact (Kd.R_reads' HO234.out).2.2 | (with_reducible refine Kd.C_alloc ?_ _) | (with_reducible refine Kd.C_drewN ?_ _) | (with_reducible refine Kd.C_drew ?_))); (case side2 => exact (Kd.R_reads' HO234.out).2.1); rintro e w21 ⟨rfl, hb⟩; (first | refine ⟨_, rfl, ?_⟩ | skip); have n0_ := bA (Kd.R_below (by (with_reducible repeat (first | apply Kd.R_alloc | apply Kd.R_drewN | apply Kd.R_drew)); exact HO234.out) hb); have n1_ := bA (bB BK229 hb); have n2_ := bA (bB BK230 hb); have n3_ := bA (bB BK231 hb); have n4_ := bA (bS hb); clear HO234; clear BK229; clear BK230; clear BK231; clear HB; have HO234 := n0_; have BK229 := n1_; have BK230 := n2_; have BK231 := n3_; have HB := n4_; clear n0_ n1_ n2_ n3_ n4_; (try clear hb); (try clear hb2); (try clear hk); (try clear hi)))
  have n0_ := bA (Kd.R_drew HO234.out)
  have n1_ := bA (blk_drew BK229.out)
  have n2_ := bA (blk_drew BK230.out)
  have n3_ := bA (blk_drew BK231.out)
  have n4_ := bA (below_drew1 HB.out)
  clear HO234
  clear BK229
  clear BK230
  clear BK231
  clear HB
  have HO234 := n0_
  have BK229 := n1_
  have BK230 := n2_
  have BK231 := n3_
  have HB := n4_
  clear n0_ n1_ n2_ n3_ n4_
  refine start_ (n := 24) (S := fun w' => w'.cell? ⟨gb230, 0, none⟩ = some (.int .i64 a1_0) ∧ w'.cell? ⟨gb230, 1, none⟩ = some (.int .i64 a1_1) ∧ w'.cell? ⟨gb229, 0, none⟩ = some (.int .i64 a0_0) ∧ w'.cell? ⟨gb229, 1, none⟩ = some (.int .i64 a0_1) ∧ w'.cell? ⟨gb231, 0, none⟩ = some (.int .i64 a2_0) ∧ w'.cell? ⟨gb231, 1, none⟩ = some (.int .i64 a2_1)) (ds := []) #[false, false, false, false, false, false, false, false, false, false, false, false, false, false, false, false, false, false, false, false, false, false, false, false] (by kernel_rfl) rfl rfl ⟨(blk_cell BK230.out 0).trans rfl, (blk_cell BK230.out 1).trans rfl, (blk_cell BK229.out 0).trans rfl, (blk_cell BK229.out 1).trans rfl, (blk_cell BK231.out 0).trans rfl, (blk_cell BK231.out 1).trans rfl⟩ (fun hHeld => ?_); refine with_tabW point_Turn.tab3 point_Turn.bits3 (fun HT_ HW_ => ?_)
  generalize w21.drew = w22 at HO234 BK229 BK230 BK231 HB hHeld ⊢
  refine pure_ (i := 0) (N := some 13) (v := ?_) (a' := ?_) #[true, false, false, false, false, false, false, false, false, false, false, false, false, false, false, false, false, false, false, false, false, false, false, false] rfl rfl (any_of HT_.out (by kernel_rfl)) (fun _ _ _ h => h) (Or.inl ⟨by rfl, ?_⟩) ?_ ?_
  rotate_left
  ·intro w'
   go_simp
   with_reducible rfl
  rotate_left
  ·simp only [Act.put, List.setIfInBounds_toArray, List.set_cons_zero, List.set_cons_succ, i64_w, i32_w]
   rfl
  refine pure_ (i := 2) (N := some 15) (v := ?_) (a' := ?_) #[true, false, true, false, false, false, false, false, false, false, false, false, false, false, false, false, false, false, false, false, false, false, false, false] rfl rfl (any_of HT_.out (by kernel_rfl)) (fun _ _ _ h => h) (Or.inl ⟨by rfl, ?_⟩) ?_ ?_
  rotate_left
  ·intro w'
   go_simp
   with_reducible rfl
  rotate_left
  ·simp only [Act.put, List.setIfInBounds_toArray, List.set_cons_zero, List.set_cons_succ, i64_w, i32_w]
   rfl
  refine pure_ (i := 5) (N := some 18) (v := ?_) (a' := ?_) #[true, false, true, false, false, true, false, false, false, false, false, false, false, false, false, false, false, false, false, false, false, false, false, false] rfl rfl (any_of HT_.out (by kernel_rfl)) (fun _ _ _ h => h) (Or.inl ⟨by rfl, ?_⟩) ?_ ?_
  rotate_left
  ·intro w'
   go_simp
   with_reducible rfl
  rotate_left
  ·simp only [Act.put, List.setIfInBounds_toArray, List.set_cons_zero, List.set_cons_succ, i64_w, i32_w]
   rfl
  refine pure_ (i := 7) (N := some 20) (v := ?_) (a' := ?_) #[true, false, true, false, false, true, false, true, false, false, false, false, false, false, false, false, false, false, false, false, false, false, false, false] rfl rfl (any_of HT_.out (by kernel_rfl)) (fun _ _ _ h => h) (Or.inl ⟨by rfl, ?_⟩) ?_ ?_
  rotate_left
  ·intro w'
   go_simp
   with_reducible rfl
  rotate_left
  ·simp only [Act.put, List.setIfInBounds_toArray, List.set_cons_zero, List.set_cons_succ, i64_w, i32_w]
   rfl
  refine pure_ (i := 11) (N := some 24) (v := ?_) (a' := ?_) #[true, false, true, false, false, true, false, true, false, false, false, true, false, false, false, false, false, false, false, false, false, false, false, false] rfl rfl (any_of HT_.out (by kernel_rfl)) (fun _ _ _ h => h) (Or.inl ⟨by rfl, ?_⟩) ?_ ?_
  rotate_left
  ·intro w'
   go_simp
   with_reducible rfl
  rotate_left
  ·simp only [Act.put, List.setIfInBounds_toArray, List.set_cons_zero, List.set_cons_succ, i64_w, i32_w]
   rfl
  refine pure_ (i := 13) (N := some 26) (v := ?_) (a' := ?_) #[true, false, true, false, false, true, false, true, false, false, false, true, false, true, false, false, false, false, false, false, false, false, false, false] rfl rfl (any_of HT_.out (by kernel_rfl)) (fun _ _ _ h => h) (Or.inl ⟨by rfl, ?_⟩) ?_ ?_
  rotate_left
  ·intro w'
   go_simp
   with_reducible rfl
  rotate_left
  ·simp only [Act.put, List.setIfInBounds_toArray, List.set_cons_zero, List.set_cons_succ, i64_w, i32_w]
   rfl
  refine pure_ (i := 16) (N := some 29) (v := ?_) (a' := ?_) #[true, false, true, false, false, true, false, true, false, false, false, true, false, true, false, false, true, false, false, false, false, false, false, false] rfl rfl (any_of HT_.out (by kernel_rfl)) (fun _ _ _ h => h) (Or.inl ⟨by rfl, ?_⟩) ?_ ?_
  rotate_left
  ·intro w'
   go_simp
   with_reducible rfl
  rotate_left
  ·simp only [Act.put, List.setIfInBounds_toArray, List.set_cons_zero, List.set_cons_succ, i64_w, i32_w]
   rfl
  refine pure_ (i := 18) (N := some 31) (v := ?_) (a' := ?_) #[true, false, true, false, false, true, false, true, false, false, false, true, false, true, false, false, true, false, true, false, false, false, false, false] rfl rfl (any_of HT_.out (by kernel_rfl)) (fun _ _ _ h => h) (Or.inl ⟨by rfl, ?_⟩) ?_ ?_
  rotate_left
  ·intro w'
   go_simp
   with_reducible rfl
  rotate_left
  ·simp only [Act.put, List.setIfInBounds_toArray, List.set_cons_zero, List.set_cons_succ, i64_w, i32_w]
   rfl
  refine take_ (i := 1) (N := some 14) (v := ?_) (a' := ?_) #[true, true, true, false, false, true, false, true, false, false, false, true, false, true, false, false, true, false, true, false, false, false, false, false] rfl rfl (take_ofW HT_.out HW_.out (by kernel_rfl)) (fun _ _ _ h => h) (Or.inl ⟨by rfl, ?_⟩) hHeld ?_ ?_
  rotate_left
  ·rintro w' ⟨s0, s1, s2, s3, s4, s5⟩
   go_simp
   with_reducible rfl
  rotate_left
  ·simp only [Act.put, List.setIfInBounds_toArray, List.set_cons_zero, List.set_cons_succ, i64_w, i32_w]
   rfl
  refine take_ (i := 3) (N := some 16) (v := ?_) (a' := ?_) #[true, true, true, true, false, true, false, true, false, false, false, true, false, true, false, false, true, false, true, false, false, false, false, false] rfl rfl (take_ofW HT_.out HW_.out (by kernel_rfl)) (fun _ _ _ h => h) (Or.inl ⟨by rfl, ?_⟩) hHeld ?_ ?_
  rotate_left
  ·rintro w' ⟨s0, s1, s2, s3, s4, s5⟩
   go_simp
   with_reducible rfl
  rotate_left
  ·simp only [Act.put, List.setIfInBounds_toArray, List.set_cons_zero, List.set_cons_succ, i64_w, i32_w]
   rfl
  refine pure_ (i := 4) (N := some 17) (v := ?_) (a' := ?_) #[true, true, true, true, true, true, false, true, false, false, false, true, false, true, false, false, true, false, true, false, false, false, false, false] rfl rfl (any_of HT_.out (by kernel_rfl)) (fun _ _ _ h => h) (Or.inl ⟨by rfl, ?_⟩) ?_ ?_
  rotate_left
  ·intro w'
   go_simp
   with_reducible rfl
  rotate_left
  ·simp only [Act.put, List.setIfInBounds_toArray, List.set_cons_zero, List.set_cons_succ, i64_w, i32_w]
   rfl
  refine take_ (i := 6) (N := some 19) (v := ?_) (a' := ?_) #[true, true, true, true, true, true, true, true, false, false, false, true, false, true, false, false, true, false, true, false, false, false, false, false] rfl rfl (take_ofW HT_.out HW_.out (by kernel_rfl)) (fun _ _ _ h => h) (Or.inl ⟨by rfl, ?_⟩) hHeld ?_ ?_
  rotate_left
  ·rintro w' ⟨s0, s1, s2, s3, s4, s5⟩
   go_simp
   with_reducible rfl
  rotate_left
  ·simp only [Act.put, List.setIfInBounds_toArray, List.set_cons_zero, List.set_cons_succ, i64_w, i32_w]
   rfl
  refine take_ (i := 8) (N := some 21) (v := ?_) (a' := ?_) #[true, true, true, true, true, true, true, true, true, false, false, true, false, true, false, false, true, false, true, false, false, false, false, false] rfl rfl (take_ofW HT_.out HW_.out (by kernel_rfl)) (fun _ _ _ h => h) (Or.inl ⟨by rfl, ?_⟩) hHeld ?_ ?_
  rotate_left
  ·rintro w' ⟨s0, s1, s2, s3, s4, s5⟩
   go_simp
   with_reducible rfl
  rotate_left
  ·simp only [Act.put, List.setIfInBounds_toArray, List.set_cons_zero, List.set_cons_succ, i64_w, i32_w]
   rfl
  refine pure_ (i := 9) (N := some 22) (v := ?_) (a' := ?_) #[true, true, true, true, true, true, true, true, true, true, false, true, false, true, false, false, true, false, true, false, false, false, false, false] rfl rfl (any_of HT_.out (by kernel_rfl)) (fun _ _ _ h => h) (Or.inl ⟨by rfl, ?_⟩) ?_ ?_
  rotate_left
  ·intro w'
   go_simp
   with_reducible rfl
  rotate_left
  ·simp only [Act.put, List.setIfInBounds_toArray, List.set_cons_zero, List.set_cons_succ, i64_w, i32_w]
   rfl
  refine take_ (i := 12) (N := some 25) (v := ?_) (a' := ?_) #[true, true, true, true, true, true, true, true, true, true, false, true, true, true, false, false, true, false, true, false, false, false, false, false] rfl rfl (take_ofW HT_.out HW_.out (by kernel_rfl)) (fun _ _ _ h => h) (Or.inl ⟨by rfl, ?_⟩) hHeld ?_ ?_
  rotate_left
  ·rintro w' ⟨s0, s1, s2, s3, s4, s5⟩
   go_simp
   with_reducible rfl
  rotate_left
  ·simp only [Act.put, List.setIfInBounds_toArray, List.set_cons_zero, List.set_cons_succ, i64_w, i32_w]
   rfl
  refine take_ (i := 14) (N := some 27) (v := ?_) (a' := ?_) #[true, true, true, true, true, true, true, true, true, true, false, true, true, true, true, false, true, false, true, false, false, false, false, false] rfl rfl (take_ofW HT_.out HW_.out (by kernel_rfl)) (fun _ _ _ h => h) (Or.inl ⟨by rfl, ?_⟩) hHeld ?_ ?_
  rotate_left
  ·rintro w' ⟨s0, s1, s2, s3, s4, s5⟩
   go_simp
   with_reducible rfl
  rotate_left
  ·simp only [Act.put, List.setIfInBounds_toArray, List.set_cons_zero, List.set_cons_succ, i64_w, i32_w]
   rfl
  refine pure_ (i := 15) (N := some 28) (v := ?_) (a' := ?_) #[true, true, true, true, true, true, true, true, true, true, false, true, true, true, true, true, true, false, true, false, false, false, false, false] rfl rfl (any_of HT_.out (by kernel_rfl)) (fun _ _ _ h => h) (Or.inl ⟨by rfl, ?_⟩) ?_ ?_
  rotate_left
  ·intro w'
   go_simp
   with_reducible rfl
  rotate_left
  ·simp only [Act.put, List.setIfInBounds_toArray, List.set_cons_zero, List.set_cons_succ, i64_w, i32_w]
   rfl
  refine take_ (i := 17) (N := some 30) (v := ?_) (a' := ?_) #[true, true, true, true, true, true, true, true, true, true, false, true, true, true, true, true, true, true, true, false, false, false, false, false] rfl rfl (take_ofW HT_.out HW_.out (by kernel_rfl)) (fun _ _ _ h => h) (Or.inl ⟨by rfl, ?_⟩) hHeld ?_ ?_
  rotate_left
  ·rintro w' ⟨s0, s1, s2, s3, s4, s5⟩
   go_simp
   with_reducible rfl
  rotate_left
  ·simp only [Act.put, List.setIfInBounds_toArray, List.set_cons_zero, List.set_cons_succ, i64_w, i32_w]
   rfl
  refine take_ (i := 19) (N := some 32) (v := ?_) (a' := ?_) #[true, true, true, true, true, true, true, true, true, true, false, true, true, true, true, true, true, true, true, true, false, false, false, false] rfl rfl (take_ofW HT_.out HW_.out (by kernel_rfl)) (fun _ _ _ h => h) (Or.inl ⟨by rfl, ?_⟩) hHeld ?_ ?_
  rotate_left
  ·rintro w' ⟨s0, s1, s2, s3, s4, s5⟩
   go_simp
   with_reducible rfl
  rotate_left
  ·simp only [Act.put, List.setIfInBounds_toArray, List.set_cons_zero, List.set_cons_succ, i64_w, i32_w]
   rfl
  refine pure_ (i := 20) (N := some 33) (v := ?_) (a' := ?_) #[true, true, true, true, true, true, true, true, true, true, false, true, true, true, true, true, true, true, true, true, true, false, false, false] rfl rfl (any_of HT_.out (by kernel_rfl)) (fun _ _ _ h => h) (Or.inl ⟨by rfl, ?_⟩) ?_ ?_
  rotate_left
  ·intro w'
   go_simp
   with_reducible rfl
  rotate_left
  ·simp only [Act.put, List.setIfInBounds_toArray, List.set_cons_zero, List.set_cons_succ, i64_w, i32_w]
   rfl
  refine one_ (i := 10) (N := some 23) #[true, true, true, true, true, true, true, true, true, true, true, true, true, true, true, true, true, true, true, true, true, false, false, false] rfl rfl (one_of HT_.out (by kernel_rfl)) (by decide) (fun K hK => ?_)
  refine goes_ Try.func40 (by kernel_rfl) rfl #[.int .i64 (wrap64 (a1_0 - a0_0)), .int .i64 (wrap64 (a2_1 - a0_1))] (by rfl) rfl rfl (by (try simp only [List.map_toArray, List.map_cons, List.map_nil]); first | done | rfl | (simp only [List.length_drop, List.length_take]; rfl)) ?_
  with_reducible refine (wide_Mul.calls (wrap64 (a1_0 - a0_0)) (wrap64 (a2_1 - a0_1)) t236 t237 _ A6.out).mono ?_
  rintro e w23 ⟨rfl, hb⟩
  refine ⟨_, rfl, ?_⟩
  have n0_ := bA (Kd.R_below (by (with_reducible repeat (first | apply Kd.R_alloc | apply Kd.R_drewN | apply Kd.R_drew)); exact HO234.out) hb)
  have n1_ := bA (bB BK229 hb)
  have n2_ := bA (bB BK230 hb)
  have n3_ := bA (bB BK231 hb)
  have n4_ := bA (bS hb)
  clear HO234
  clear BK229
  clear BK230
  clear BK231
  clear HB
  have HO234 := n0_
  have BK229 := n1_
  have BK230 := n2_
  have BK231 := n3_
  have HB := n4_
  clear n0_ n1_ n2_ n3_ n4_
  (try clear hb)
  (try clear hb2)
  (try clear hk)
  (try clear hi)
  refine hK.out _ _ ⟨(blk_cell BK230.out 0).trans rfl, (blk_cell BK230.out 1).trans rfl, (blk_cell BK229.out 0).trans rfl, (blk_cell BK229.out 1).trans rfl, (blk_cell BK231.out 0).trans rfl, (blk_cell BK231.out 1).trans rfl⟩ (fun hHeld => ?_)
  clear hK K
  refine norm_ (a' := ?_) ?_ ?_
  rotate_left
  ·show Act.put _ (some 23) _ = _
   simp only [Act.put, List.setIfInBounds_toArray, List.set_cons_zero, List.set_cons_succ, i64_w, i32_w]
   rfl
  refine one_ (i := 21) (N := some 34) #[true, true, true, true, true, true, true, true, true, true, true, true, true, true, true, true, true, true, true, true, true, true, false, false] rfl rfl (one_of HT_.out (by kernel_rfl)) (by decide) (fun K hK => ?_)
  refine goes_ Try.func40 (by kernel_rfl) rfl #[.int .i64 (wrap64 (a1_1 - a0_1)), .int .i64 (wrap64 (a2_0 - a0_0))] (by rfl) rfl rfl (by (try simp only [List.map_toArray, List.map_cons, List.map_nil]); first | done | rfl | (simp only [List.length_drop, List.length_take]; rfl)) ?_
  with_reducible refine (wide_Mul.calls (wrap64 (a1_1 - a0_1)) (wrap64 (a2_0 - a0_0)) t238 t239 _ A7.out).mono ?_
  rintro e w24 ⟨rfl, hb⟩
  refine ⟨_, rfl, ?_⟩
  have n0_ := bA (Kd.R_below (by (with_reducible repeat (first | apply Kd.R_alloc | apply Kd.R_drewN | apply Kd.R_drew)); exact HO234.out) hb)
  have n1_ := bA (bB BK229 hb)
  have n2_ := bA (bB BK230 hb)
  have n3_ := bA (bB BK231 hb)
  have n4_ := bA (bS hb)
  clear HO234
  clear BK229
  clear BK230
  clear BK231
  clear HB
  have HO234 := n0_
  have BK229 := n1_
  have BK230 := n2_
  have BK231 := n3_
  have HB := n4_
  clear n0_ n1_ n2_ n3_ n4_
  (try clear hb)
  (try clear hb2)
  (try clear hk)
  (try clear hi)
  refine hK.out _ _ ⟨(blk_cell BK230.out 0).trans rfl, (blk_cell BK230.out 1).trans rfl, (blk_cell BK229.out 0).trans rfl, (blk_cell BK229.out 1).trans rfl, (blk_cell BK231.out 0).trans rfl, (blk_cell BK231.out 1).trans rfl⟩ (fun hHeld => ?_)
  clear hK K
  refine norm_ (a' := ?_) ?_ ?_
  rotate_left
  ·show Act.put _ (some 34) _ = _
   simp only [Act.put, List.setIfInBounds_toArray, List.set_cons_zero, List.set_cons_succ, i64_w, i32_w]
   rfl
  refine one_ (i := 22) (N := some 35) #[true, true, true, true, true, true, true, true, true, true, true, true, true, true, true, true, true, true, true, true, true, true, true, false] rfl rfl (one_of HT_.out (by kernel_rfl)) (by decide) (fun K hK => ?_)
  refine goes_ Try.func41 (by kernel_rfl) rfl #[.agg #[.int .i64 t236, .int .u64 t237], .agg #[.int .i64 t238, .int .u64 t239]] (by rfl) rfl rfl (by (try simp only [List.map_toArray, List.map_cons, List.map_nil]); first | done | rfl | (simp only [List.length_drop, List.length_take]; rfl)) ?_
  with_reducible refine (wide_Wide_Cmp.calls k t236 t237 t238 t239 t240 _ A8.out).mono ?_
  rintro e w25 ⟨rfl, hb⟩
  refine ⟨_, rfl, ?_⟩
  have n0_ := bA (Kd.R_below (by (with_reducible repeat (first | apply Kd.R_alloc | apply Kd.R_drewN | apply Kd.R_drew)); exact HO234.out) hb)
  have n1_ := bA (bB BK229 hb)
  have n2_ := bA (bB BK230 hb)
  have n3_ := bA (bB BK231 hb)
  have n4_ := bA (bS hb)
  clear HO234
  clear BK229
  clear BK230
  clear BK231
  clear HB
  have HO234 := n0_
  have BK229 := n1_
  have BK230 := n2_
  have BK231 := n3_
  have HB := n4_
  clear n0_ n1_ n2_ n3_ n4_
  (try clear hb)
  (try clear hb2)
  (try clear hk)
  (try clear hi)
  refine hK.out _ _ ⟨(blk_cell BK230.out 0).trans rfl, (blk_cell BK230.out 1).trans rfl, (blk_cell BK229.out 0).trans rfl, (blk_cell BK229.out 1).trans rfl, (blk_cell BK231.out 0).trans rfl, (blk_cell BK231.out 1).trans rfl⟩ (fun hHeld => ?_)
  clear hK K
  refine norm_ (a' := ?_) ?_ ?_
  rotate_left
  ·show Act.put _ (some 35) _ = _
   simp only [Act.put, List.setIfInBounds_toArray, List.set_cons_zero, List.set_cons_succ, i64_w, i32_w]
   rfl
  refine pure_ (i := 23) (N := some 6) (v := ?_) (a' := ?_) #[true, true, true, true, true, true, true, true, true, true, true, true, true, true, true, true, true, true, true, true, true, true, true, true] rfl rfl (any_of HT_.out (by kernel_rfl)) (fun _ _ _ h => h) (Or.inl ⟨by rfl, ?_⟩) ?_ ?_
  rotate_left
  ·intro w'
   go_simp
   with_reducible rfl
  rotate_left
  ·simp only [Act.put, List.setIfInBounds_toArray, List.set_cons_zero, List.set_cons_succ, i64_w, i32_w]
   rfl
  refine done_ (done_of HT_.out (by kernel_rfl)) ?_
  try go_wp2
  go_ret
  exact bF
 ·replace c5 := Bool.eq_false_iff.mpr c5
  subst c5
  rw [if_neg (show ¬ (false = true) by decide)] at H
  obtain rfl := Option.some.inj H
  go_enter Try.func18, Try.ntmps18
  go_wp2_with (first | ((with_reducible refine gate_dst (N := 3) rfl ?_); refine bE (N := 3) (cs := #[.int .i64 a0_0, .int .i64 a0_1]) (t := 31) ?_; intro gb229 hg w26 hbox hb; have n0_ := bA (bS hb); have n1_ := bA (hbox); have n2_ := bA ((bZ hg : w.heap.size ≤ gb229)); have n3_ := bA ((bZ hg : w.heap.size ≤ gb229)); clear HB; have HB := n0_; have BK229 := n1_; have GW229 := n2_; have GE229 := n3_; clear n0_ n1_ n2_ n3_; clear hb hbox hg) | ((with_reducible refine gate_dst (N := 4) rfl ?_); refine bE (N := 4) (cs := #[.int .i64 a1_0, .int .i64 a1_1]) (t := 31) ?_; intro gb230 hg w27 hbox hb; have n0_ := bA (bB BK229 hb); have n1_ := bA (bS hb); have n2_ := bA (hbox); have n3_ := bA ((bZ hg : w.heap.size ≤ gb230)); have n4_ := bA ((bZ hg : w.heap.size ≤ gb230)); have n5_ := bA ((bL BK229 hg : gb229 ≠ gb230)); have n6_ := bA ((bG BK229 hg : gb230 ≠ gb229)); clear BK229; clear HB; have BK229 := n0_; have HB := n1_; have BK230 := n2_; have GW230 := n3_; have GE230 := n4_; have NB229_230 := n5_; have NB230_229 := n6_; clear n0_ n1_ n2_ n3_ n4_ n5_ n6_; clear hb hbox hg) | ((with_reducible refine gate_dst (N := 5) rfl ?_); refine bE (N := 5) (cs := #[.int .i64 a2_0, .int .i64 a2_1]) (t := 31) ?_; intro gb231 hg w28 hbox hb; have n0_ := bA (bB BK229 hb); have n1_ := bA (bB BK230 hb); have n2_ := bA (bS hb); have n3_ := bA (hbox); have n4_ := bA ((bZ hg : w.heap.size ≤ gb231)); have n5_ := bA ((bZ hg : w.heap.size ≤ gb231)); have n6_ := bA ((bL BK229 hg : gb229 ≠ gb231)); have n7_ := bA ((bG BK229 hg : gb231 ≠ gb229)); have n8_ := bA ((bL BK230 hg : gb230 ≠ gb231)); have n9_ := bA ((bG BK230 hg : gb231 ≠ gb230)); clear BK229; clear BK230; clear HB; have BK229 := n0_; have BK230 := n1_; have HB := n2_; have BK231 := n3_; have GW231 := n4_; have GE231 := n5_; have NB229_231 := n6_; have NB231_229 := n7_; have NB230_231 := n8_; have NB231_230 := n9_; clear n0_ n1_ n2_ n3_ n4_ n5_ n6_ n7_ n8_ n9_; clear hb hbox hg; have hnb29 := NB229_230.out; have hnc29 := NB230_229.out; have hnb30 := NB229_231.out; have hnc30 := NB231_229.out; have hcz31_0 : w28.cell? ⟨gb229, 0, none⟩ = some (.int .i64 a0_0) := (blk_cell BK229.out 0).trans rfl; have hcz31_1 : w28.cell? ⟨gb229, 1, none⟩ = some (.int .i64 a0_1) := (blk_cell BK229.out 1).trans rfl; have hfz31_0 := blk_frozen BK229.out 0; have hfz31_1 := blk_frozen BK229.out 1; have hnb32 := NB230_231.out; have hnc32 := NB231_230.out; have hcz33_0 : w28.cell? ⟨gb230, 0, none⟩ = some (.int .i64 a1_0) := (blk_cell BK230.out 0).trans rfl; have hcz33_1 : w28.cell? ⟨gb230, 1, none⟩ = some (.int .i64 a1_1) := (blk_cell BK230.out 1).trans rfl; have hfz33_0 := blk_frozen BK230.out 0; have hfz33_1 := blk_frozen BK230.out 1; have hcz34_0 : w28.cell? ⟨gb231, 0, none⟩ = some (.int .i64 a2_0) := (blk_cell BK231.out 0).trans rfl; have hcz34_1 : w28.cell? ⟨gb231, 1, none⟩ = some (.int .i64 a2_1) := (blk_cell BK231.out 1).trans rfl; have hfz34_0 := blk_frozen BK231.out 0; have hfz34_1 := blk_frozen BK231.out 1) | ((with_reducible refine gate_dst (N := 10) rfl ?_); refine Kd.R_lit k31 _ 31 ?hg (N := 10) ?hd (xs := ([(⟨a0_0, a0_1⟩ : S31), (⟨a1_0, a1_1⟩ : S31), (⟨a2_0, a2_1⟩ : S31)] : List (S31))) (inner := [.int .i64 a0_0, .int .i64 a0_1, .int .i64 a1_0, .int .i64 a1_1, .int .i64 a2_0, .int .i64 a2_1]) (ok := fun _ => True) (okp := fun _ => True) ?hr ?hp (fun _ hk => hk) trivial (Below.refl _ _) (Nat.le_refl _) (by simp) ?_; (case hd => rfl); (case hg => rfl); (case hr => first | (go_simp; done) | (go_simp; rfl)); (case hp => exact (Reps.c2 (show Kd.M k31 _ _ _ (⟨a0_0, a0_1⟩ : S31) [.int .i64 a0_0, .int .i64 a0_1] from (k31_mkM _ _ _ (⟨a0_0, a0_1⟩ : S31) )) (Reps.c2 (show Kd.M k31 _ _ _ (⟨a1_0, a1_1⟩ : S31) [.int .i64 a1_0, .int .i64 a1_1] from (k31_mkM _ _ _ (⟨a1_0, a1_1⟩ : S31) )) (Reps.c2 (show Kd.M k31 _ _ _ (⟨a2_0, a2_1⟩ : S31) [.int .i64 a2_0, .int .i64 a2_1] from (k31_mkM _ _ _ (⟨a2_0, a2_1⟩ : S31) )) (Reps.none _ _))))); intro v233 w35 ho36 hb hg_ hnew_; clear hg_ hnew_; (first | rw [← Ny232.out] at ho36 | (simp only [Int.reduceToNat] at ho36; rw [← Ny232.out] at ho36)); have n0_ := bA (Kd.R_lower (bN (bN (bN ho36 BK229) BK230) BK231) bY); have n1_ := bA (bB BK229 hb); have n2_ := bA (bB BK230 hb); have n3_ := bA (bB BK231 hb); have n4_ := bA (bS hb); clear BK229; clear BK230; clear BK231; clear HB; have HO234 := n0_; have BK229 := n1_; have BK230 := n2_; have BK231 := n3_; have HB := n4_; clear n0_ n1_ n2_ n3_ n4_; clear hb ho36; obtain ⟨Ao37, co37, eo37⟩ := Kd.R_slice HO234.out; subst eo37) | ((first | ((with_reducible refine gate_callee (f := 39) rfl ?_); refine bC (some 11) Try.func39 #[.slice Ao37 y232.length co37] ?_) | go_at_call 39); (with_reducible refine (point_right.calls k _ _ y232 false _ ?side1 ?side2 A4.out).mono ?_); (case side1 => repeat (first | exact (Kd.R_reads' HO234.out).2.2 | (with_reducible refine Kd.C_alloc ?_ _) | (with_reducible refine Kd.C_drewN ?_ _) | (with_reducible refine Kd.C_drew ?_))); (case side2 => exact (Kd.R_reads' HO234.out).2.1); rintro e w38 ⟨rfl, hb⟩; (first | refine ⟨_, rfl, ?_⟩ | skip); have n0_ := bA (Kd.R_below (by (with_reducible repeat (first | apply Kd.R_alloc | apply Kd.R_drewN | apply Kd.R_drew)); exact HO234.out) hb); have n1_ := bA (bB BK229 hb); have n2_ := bA (bB BK230 hb); have n3_ := bA (bB BK231 hb); have n4_ := bA (bS hb); clear HO234; clear BK229; clear BK230; clear BK231; clear HB; have HO234 := n0_; have BK229 := n1_; have BK230 := n2_; have BK231 := n3_; have HB := n4_; clear n0_ n1_ n2_ n3_ n4_; (try clear hb); (try clear hb2); (try clear hk); (try clear hi)))
  go_ret
  exact bF
/-! ### point_between: function 45 -/
def point_between.f (a0 : Int) (a1 : Int) (a2 : Int) : Option (Bool) := if (mn a1 a2) ≤ a0 then (some (decide (a0 ≤ (mx a1 a2)))) else (some false)
set_option maxHeartbeats 8000000 in
set_option maxRecDepth 100000 in
theorem point_between.calls (a0 : Int) (a1 : Int) (a2 : Int) (r : Bool) (w : World) (h : point_between.f a0 a1 a2 = some r) :
  Calls Try.prog 45 #[.int .i64 a0, .int .i64 a1, .int .i64 a2] w fun e w' => e = .returned (.bool r) ∧ Below w.heap.size w w' := by
 have HB := bA (Below.refl w.heap.size w)
 have H : (if (mn a1 a2) ≤ a0 then (some (decide (a0 ≤ (mx a1 a2)))) else (some false)) = some r := h
 clear h
 obtain ⟨ji4, hji4⟩ : ∃ j_ : Int, (mn a1 a2) = j_ := ⟨_, rfl⟩
 replace H : (if (ji4) ≤ a0 then (some (decide (a0 ≤ (mx a1 a2)))) else (some false)) = some r := by first | (rw [hji4] at H; exact H) | (simp only [hji4] at H ⊢; exact H)
 have hji4_ : (if a2 < a1 then a2 else a1) = ji4 := hji4
 by_cases c5 : (ji4) ≤ a0
 rw [if_pos c5] at H
 have c5b0 : decide ((ji4) ≤ a0) = true := decide_eq_true c5
 clear c5
 obtain ⟨ji6, hji6⟩ : ∃ j_ : Int, (mx a1 a2) = j_ := ⟨_, rfl⟩
 replace H : (some (decide (a0 ≤ (ji6)))) = some r := by first | (rw [hji6] at H; exact H) | (simp only [hji6] at H ⊢; exact H)
 have hji6_ : (if a1 < a2 then a2 else a1) = ji6 := hji6
 obtain rfl := Option.some.inj H
 rotate_left
 rw [if_neg c5] at H
 have c5b0 : decide ((ji4) ≤ a0) = false := decide_eq_false c5
 clear c5
 obtain rfl := Option.some.inj H
 rotate_left
 all_goals go_enter Try.func45, Try.ntmps45
 all_goals go_wp2
 ·go_ret
  exact ⟨by first | rfl | (simp [errW_none, errW_some] <;> rfl) | (simp only [← hji4, ← hji6]; first | rfl | (simp [errW_none, errW_some] <;> rfl)) | (simp [*, errW_none, errW_some] <;> rfl), by repeat (first | (with_reducible first | exact HB.out | apply below_alloc | apply pw_below_drewN | apply below_drew1) | exact HB.out)⟩
 ·go_ret
  exact ⟨by first | rfl | (simp [errW_none, errW_some] <;> rfl) | (simp only [← hji4]; first | rfl | (simp [errW_none, errW_some] <;> rfl)) | (simp [*, errW_none, errW_some] <;> rfl), by repeat (first | (with_reducible first | exact HB.out | apply below_alloc | apply pw_below_drewN | apply below_drew1) | exact HB.out)⟩
/-! ### point_On: function 20 -/
def point_On.f (k : Nat) (a0_0 : Int) (a0_1 : Int) (a1_0 : Int) (a1_1 : Int) (a2_0 : Int) (a2_1 : Int) : Option (Bool) := (point_right.f k (([(⟨a0_0, a0_1⟩ : S31), (⟨a1_0, a1_1⟩ : S31), (⟨a2_0, a2_1⟩ : S31)] : List (S31)))).bind fun t247 => (if t247 = true then ((point_Turn.f k a1_0 a1_1 a2_0 a2_1 a0_0 a0_1).bind fun t248 => (if t248 = 0 then ((point_between.f a0_0 a1_0 a2_0).bind fun t249 => (if t249 = true then ((point_between.f a0_1 a1_1 a2_1).bind fun t250 => (some t250)) else (some false))) else (some false))) else (some false))
theorem point_On.mono : ∀ a0 a1 a2 a3 a4 a5 k, LeO (point_On.f k a0 a1 a2 a3 a4 a5) (point_On.f (k + 1) a0 a1 a2 a3 a4 a5) := by
 intro a0 a1 a2 a3 a4 a5 k
 unfold point_On.f
 repeat' first
   | (with_reducible exact point_Turn.mono _ _ _ _ _ _ _)
   | (with_reducible exact point_right.mono _ _)
   | (with_reducible exact LeO.refl _)
   | (with_reducible exact LeO.none _)
   | (with_reducible refine LeO.ite ?_ ?_)
   | (with_reducible refine LeO.bind ?_ (fun _ => ?_))
   | exact point_Turn.mono _ _ _ _ _ _ _
   | exact point_right.mono _ _
   | exact LeO.none _
   | refine LeO.ite ?_ ?_
   | refine LeO.bind ?_ (fun _ => ?_)
set_option maxHeartbeats 8000000 in
set_option maxRecDepth 100000 in
theorem point_On.calls (k : Nat) (a0_0 : Int) (a0_1 : Int) (a1_0 : Int) (a1_1 : Int) (a2_0 : Int) (a2_1 : Int) (r : Bool) (w : World) (h : point_On.f k a0_0 a0_1 a1_0 a1_1 a2_0 a2_1 = some r) :
  Calls Try.prog 20 #[.agg #[.int .i64 a0_0, .int .i64 a0_1], .agg #[.int .i64 a1_0, .int .i64 a1_1], .agg #[.int .i64 a2_0, .int .i64 a2_1]] w fun e w' => e = .returned (.bool r) ∧ Below w.heap.size w w' := by
 have hu31 := Try.underlying31
 have HB := bA (Below.refl w.heap.size w)
 have H : ((point_right.f k (([(⟨a0_0, a0_1⟩ : S31), (⟨a1_0, a1_1⟩ : S31), (⟨a2_0, a2_1⟩ : S31)] : List (S31)))).bind fun t247 => (if t247 = true then ((point_Turn.f k a1_0 a1_1 a2_0 a2_1 a0_0 a0_1).bind fun t248 => (if t248 = 0 then ((point_between.f a0_0 a1_0 a2_0).bind fun t249 => (if t249 = true then ((point_between.f a0_1 a1_1 a2_1).bind fun t250 => (some t250)) else (some false))) else (some false))) else (some false))) = some r := h
 clear h
 obtain ⟨y244, hy244⟩ : ∃ y_ : List (S31), y_ = (([(⟨a0_0, a0_1⟩ : S31), (⟨a1_0, a1_1⟩ : S31), (⟨a2_0, a2_1⟩ : S31)] : List (S31))) := ⟨_, rfl⟩
 replace H : ((point_right.f k y244).bind fun t247 => (if t247 = true then ((point_Turn.f k a1_0 a1_1 a2_0 a2_1 a0_0 a0_1).bind fun t248 => (if t248 = 0 then ((point_between.f a0_0 a1_0 a2_0).bind fun t249 => (if t249 = true then ((point_between.f a0_1 a1_1 a2_1).bind fun t250 => (some t250)) else (some false))) else (some false))) else (some false))) = some r := by first | (rw [hy244]; with_reducible exact H) | (have H2_ := (Option.bind_some _ _).symm.trans H; rw [hy244]; with_reducible exact H2_) | (have H2_ := (Option.bind_some _ _).symm.trans H; with_reducible exact H2_) | with_reducible exact H | (rw [hy244]; exact H) | exact H
 have Ny244 := bA hy244
 clear hy244
 replace H := Option.bind_eq_some_iff.mp H
 obtain ⟨t247, A40, H⟩ := H
 replace H : (if t247 = true then ((point_Turn.f k a1_0 a1_1 a2_0 a2_1 a0_0 a0_1).bind fun t248 => (if t248 = 0 then ((point_between.f a0_0 a1_0 a2_0).bind fun t249 => (if t249 = true then ((point_between.f a0_1 a1_1 a2_1).bind fun t250 => (some t250)) else (some false))) else (some false))) else (some false)) = some r := H
 have A4 := bA A40
 clear A40
 by_cases c5 : t247 = true
 subst c5
 rw [if_pos rfl] at H
 replace H := Option.bind_eq_some_iff.mp H
 obtain ⟨t248, A60, H⟩ := H
 replace H : (if t248 = 0 then ((point_between.f a0_0 a1_0 a2_0).bind fun t249 => (if t249 = true then ((point_between.f a0_1 a1_1 a2_1).bind fun t250 => (some t250)) else (some false))) else (some false)) = some r := H
 have A6 := bA A60
 clear A60
 by_cases c7 : t248 = 0
 rw [if_pos c7] at H
 have c7b0 : (t248 == 0) = true := beq_iff_eq.mpr c7
 have c7b1 : (t248 != 0) = false := bne_eq_false_iff_eq.mpr c7
 clear c7
 replace H := Option.bind_eq_some_iff.mp H
 obtain ⟨t249, A80, H⟩ := H
 replace H : (if t249 = true then ((point_between.f a0_1 a1_1 a2_1).bind fun t250 => (some t250)) else (some false)) = some r := H
 have A8 := bA A80
 clear A80
 by_cases c9 : t249 = true
 subst c9
 rw [if_pos rfl] at H
 replace H := Option.bind_eq_some_iff.mp H
 obtain ⟨t250, A100, H⟩ := H
 replace H : (some t250) = some r := H
 have A10 := bA A100
 clear A100
 obtain rfl := Option.some.inj H
 rotate_left
 replace c9 := Bool.eq_false_iff.mpr c9
 subst c9
 rw [if_neg (show ¬ (false = true) by decide)] at H
 obtain rfl := Option.some.inj H
 rotate_left
 rw [if_neg c7] at H
 have c7b0 : (t248 == 0) = false := beq_eq_false_iff_ne.mpr c7
 have c7b1 : (t248 != 0) = true := bne_iff_ne.mpr c7
 obtain rfl := Option.some.inj H
 rotate_left
 replace c5 := Bool.eq_false_iff.mpr c5
 subst c5
 rw [if_neg (show ¬ (false = true) by decide)] at H
 obtain rfl := Option.some.inj H
 rotate_left
 all_goals go_enter Try.func20, Try.ntmps20
 all_goals go_wp2_with (first | ((with_reducible refine gate_dst (N := 3) rfl ?_); refine bE (N := 3) (cs := #[.int .i64 a0_0, .int .i64 a0_1]) (t := 31) ?_; intro gb241 hg wz0 hbox hb; have n0_ := bA (bS hb); have n1_ := bA (hbox); have n2_ := bA ((bZ hg : w.heap.size ≤ gb241)); have n3_ := bA ((bZ hg : w.heap.size ≤ gb241)); clear HB; have HB := n0_; have BK241 := n1_; have GW241 := n2_; have GE241 := n3_; clear n0_ n1_ n2_ n3_; clear hb hbox hg) | ((with_reducible refine gate_dst (N := 4) rfl ?_); refine bE (N := 4) (cs := #[.int .i64 a1_0, .int .i64 a1_1]) (t := 31) ?_; intro gb242 hg wz1 hbox hb; have n0_ := bA (bB BK241 hb); have n1_ := bA (bS hb); have n2_ := bA (hbox); have n3_ := bA ((bZ hg : w.heap.size ≤ gb242)); have n4_ := bA ((bZ hg : w.heap.size ≤ gb242)); have n5_ := bA ((bL BK241 hg : gb241 ≠ gb242)); have n6_ := bA ((bG BK241 hg : gb242 ≠ gb241)); clear BK241; clear HB; have BK241 := n0_; have HB := n1_; have BK242 := n2_; have GW242 := n3_; have GE242 := n4_; have NB241_242 := n5_; have NB242_241 := n6_; clear n0_ n1_ n2_ n3_ n4_ n5_ n6_; clear hb hbox hg) | ((with_reducible refine gate_dst (N := 5) rfl ?_); refine bE (N := 5) (cs := #[.int .i64 a2_0, .int .i64 a2_1]) (t := 31) ?_; intro gb243 hg wz2 hbox hb; have n0_ := bA (bB BK241 hb); have n1_ := bA (bB BK242 hb); have n2_ := bA (bS hb); have n3_ := bA (hbox); have n4_ := bA ((bZ hg : w.heap.size ≤ gb243)); have n5_ := bA ((bZ hg : w.heap.size ≤ gb243)); have n6_ := bA ((bL BK241 hg : gb241 ≠ gb243)); have n7_ := bA ((bG BK241 hg : gb243 ≠ gb241)); have n8_ := bA ((bL BK242 hg : gb242 ≠ gb243)); have n9_ := bA ((bG BK242 hg : gb243 ≠ gb242)); clear BK241; clear BK242; clear HB; have BK241 := n0_; have BK242 := n1_; have HB := n2_; have BK243 := n3_; have GW243 := n4_; have GE243 := n5_; have NB241_243 := n6_; have NB243_241 := n7_; have NB242_243 := n8_; have NB243_242 := n9_; clear n0_ n1_ n2_ n3_ n4_ n5_ n6_ n7_ n8_ n9_; clear hb hbox hg; have hz1 := NB241_242.out; have hz2 := NB242_241.out; have hz3 := NB241_243.out; have hz4 := NB243_241.out; have hz5 : wz2.cell? ⟨gb241, 0, none⟩ = some (.int .i64 a0_0) := (blk_cell BK241.out 0).trans rfl; have hz6 : wz2.cell? ⟨gb241, 1, none⟩ = some (.int .i64 a0_1) := (blk_cell BK241.out 1).trans rfl; have hz7 := blk_frozen BK241.out 0; have hz8 := blk_frozen BK241.out 1; have hz9 := NB242_243.out; have hz10 := NB243_242.out; have hz11 : wz2.cell? ⟨gb242, 0, none⟩ = some (.int .i64 a1_0) := (blk_cell BK242.out 0).trans rfl; have hz12 : wz2.cell? ⟨gb242, 1, none⟩ = some (.int .i64 a1_1) := (blk_cell BK242.out 1).trans rfl; have hz13 := blk_frozen BK242.out 0; have hz14 := blk_frozen BK242.out 1; have hz15 : wz2.cell? ⟨gb243, 0, none⟩ = some (.int .i64 a2_0) := (blk_cell BK243.out 0).trans rfl; have hz16 : wz2.cell? ⟨gb243, 1, none⟩ = some (.int .i64 a2_1) := (blk_cell BK243.out 1).trans rfl; have hz17 := blk_frozen BK243.out 0; have hz18 := blk_frozen BK243.out 1) | ((with_reducible refine gate_dst (N := 10) rfl ?_); refine Kd.R_lit k31 _ 31 ?hg (N := 10) ?hd (xs := ([(⟨a0_0, a0_1⟩ : S31), (⟨a1_0, a1_1⟩ : S31), (⟨a2_0, a2_1⟩ : S31)] : List (S31))) (inner := [.int .i64 a0_0, .int .i64 a0_1, .int .i64 a1_0, .int .i64 a1_1, .int .i64 a2_0, .int .i64 a2_1]) (ok := fun _ => True) (okp := fun _ => True) ?hr ?hp (fun _ hk => hk) trivial (Below.refl _ _) (Nat.le_refl _) (by simp) ?_; (case hd => rfl); (case hg => rfl); (case hr => first | (go_simp; done) | (go_simp; rfl)); (case hp => exact (Reps.c2 (show Kd.M k31 _ _ _ (⟨a0_0, a0_1⟩ : S31) [.int .i64 a0_0, .int .i64 a0_1] from (k31_mkM _ _ _ (⟨a0_0, a0_1⟩ : S31) )) (Reps.c2 (show Kd.M k31 _ _ _ (⟨a1_0, a1_1⟩ : S31) [.int .i64 a1_0, .int .i64 a1_1] from (k31_mkM _ _ _ (⟨a1_0, a1_1⟩ : S31) )) (Reps.c2 (show Kd.M k31 _ _ _ (⟨a2_0, a2_1⟩ : S31) [.int .i64 a2_0, .int .i64 a2_1] from (k31_mkM _ _ _ (⟨a2_0, a2_1⟩ : S31) )) (Reps.none _ _))))); intro v245 wz3 ho21 hb hg_ hnew_; clear hg_ hnew_; (first | rw [← Ny244.out] at ho21 | (simp only [Int.reduceToNat] at ho21; rw [← Ny244.out] at ho21)); have n0_ := bA (Kd.R_lower (bN (bN (bN ho21 BK241) BK242) BK243) bY); have n1_ := bA (bB BK241 hb); have n2_ := bA (bB BK242 hb); have n3_ := bA (bB BK243 hb); have n4_ := bA (bS hb); clear BK241; clear BK242; clear BK243; clear HB; have HO246 := n0_; have BK241 := n1_; have BK242 := n2_; have BK243 := n3_; have HB := n4_; clear n0_ n1_ n2_ n3_ n4_; clear hb ho21; obtain ⟨Ao22, co22, eo22⟩ := Kd.R_slice HO246.out; subst eo22) | ((first | ((with_reducible refine gate_callee (f := 39) rfl ?_); refine bC (some 11) Try.func39 #[.slice Ao22 y244.length co22] ?_) | go_at_call 39); (with_reducible refine (point_right.calls k _ _ y244 true _ ?side1 ?side2 A4.out).mono ?_); (case side1 => repeat (first | exact (Kd.R_reads' HO246.out).2.2 | (with_reducible refine Kd.C_alloc ?_ _) | (with_reducible refine Kd.C_drewN ?_ _) | (with_reducible refine Kd.C_drew ?_))); (case side2 => exact (Kd.R_reads' HO246.out).2.1); rintro e wz4 ⟨rfl, hb⟩; (first | refine ⟨_, rfl, ?_⟩ | skip); have n0_ := bA (Kd.R_below (by (with_reducible repeat (first | apply Kd.R_alloc | apply Kd.R_drewN | apply Kd.R_drew)); exact HO246.out) hb); have n1_ := bA (bB BK241 hb); have n2_ := bA (bB BK242 hb); have n3_ := bA (bB BK243 hb); have n4_ := bA (bS hb); clear HO246; clear BK241; clear BK242; clear BK243; clear HB; have HO246 := n0_; have BK241 := n1_; have BK242 := n2_; have BK243 := n3_; have HB := n4_; clear n0_ n1_ n2_ n3_ n4_; (try clear hb); (try clear hb2); (try clear hk); (try clear hi); have hz19 : wz4.cell? ⟨gb242, 0, none⟩ = some (.int .i64 a1_0) := (blk_cell BK242.out 0).trans rfl; have hz20 : wz4.cell? ⟨gb242, 1, none⟩ = some (.int .i64 a1_1) := (blk_cell BK242.out 1).trans rfl; have hz13 := blk_frozen BK242.out 0; have hz14 := blk_frozen BK242.out 1; have hz21 : wz4.cell? ⟨gb243, 0, none⟩ = some (.int .i64 a2_0) := (blk_cell BK243.out 0).trans rfl; have hz22 : wz4.cell? ⟨gb243, 1, none⟩ = some (.int .i64 a2_1) := (blk_cell BK243.out 1).trans rfl; have hz17 := blk_frozen BK243.out 0; have hz18 := blk_frozen BK243.out 1; have hz23 : wz4.cell? ⟨gb241, 0, none⟩ = some (.int .i64 a0_0) := (blk_cell BK241.out 0).trans rfl; have hz24 : wz4.cell? ⟨gb241, 1, none⟩ = some (.int .i64 a0_1) := (blk_cell BK241.out 1).trans rfl; have hz7 := blk_frozen BK241.out 0; have hz8 := blk_frozen BK241.out 1) | (go_at_call 18; (with_reducible refine (point_Turn.calls k a1_0 a1_1 a2_0 a2_1 a0_0 a0_1 t248 _ A6.out).mono ?_); rintro e wz5 ⟨rfl, hb⟩; have n0_ := bA (Kd.R_below (by (with_reducible repeat (first | apply Kd.R_alloc | apply Kd.R_drewN | apply Kd.R_drew)); exact HO246.out) hb); have n1_ := bA (bB BK241 hb); have n2_ := bA (bB BK242 hb); have n3_ := bA (bB BK243 hb); have n4_ := bA (bS hb); clear HO246; clear BK241; clear BK242; clear BK243; clear HB; have HO246 := n0_; have BK241 := n1_; have BK242 := n2_; have BK243 := n3_; have HB := n4_; clear n0_ n1_ n2_ n3_ n4_; (try clear hb); (try clear hb2); (try clear hk); (try clear hi); have hz25 : wz5.cell? ⟨gb241, 0, none⟩ = some (.int .i64 a0_0) := (blk_cell BK241.out 0).trans rfl; have hz26 : wz5.cell? ⟨gb241, 1, none⟩ = some (.int .i64 a0_1) := (blk_cell BK241.out 1).trans rfl; have hz7 := blk_frozen BK241.out 0; have hz8 := blk_frozen BK241.out 1; have hz27 : wz5.cell? ⟨gb242, 0, none⟩ = some (.int .i64 a1_0) := (blk_cell BK242.out 0).trans rfl; have hz28 : wz5.cell? ⟨gb242, 1, none⟩ = some (.int .i64 a1_1) := (blk_cell BK242.out 1).trans rfl; have hz13 := blk_frozen BK242.out 0; have hz14 := blk_frozen BK242.out 1; have hz29 : wz5.cell? ⟨gb243, 0, none⟩ = some (.int .i64 a2_0) := (blk_cell BK243.out 0).trans rfl; have hz30 : wz5.cell? ⟨gb243, 1, none⟩ = some (.int .i64 a2_1) := (blk_cell BK243.out 1).trans rfl; have hz17 := blk_frozen BK243.out 0; have hz18 := blk_frozen BK243.out 1) | (go_at_call 45; (with_reducible refine (point_between.calls a0_0 a1_0 a2_0 true _ A8.out).mono ?_); rintro e wz6 ⟨rfl, hb⟩; have n0_ := bA (Kd.R_below (by (with_reducible repeat (first | apply Kd.R_alloc | apply Kd.R_drewN | apply Kd.R_drew)); exact HO246.out) hb); have n1_ := bA (bB BK241 hb); have n2_ := bA (bB BK242 hb); have n3_ := bA (bB BK243 hb); have n4_ := bA (bS hb); clear HO246; clear BK241; clear BK242; clear BK243; clear HB; have HO246 := n0_; have BK241 := n1_; have BK242 := n2_; have BK243 := n3_; have HB := n4_; clear n0_ n1_ n2_ n3_ n4_; (try clear hb); (try clear hb2); (try clear hk); (try clear hi); have hz31 : wz6.cell? ⟨gb241, 0, none⟩ = some (.int .i64 a0_0) := (blk_cell BK241.out 0).trans rfl; have hz32 : wz6.cell? ⟨gb241, 1, none⟩ = some (.int .i64 a0_1) := (blk_cell BK241.out 1).trans rfl; have hz7 := blk_frozen BK241.out 0; have hz8 := blk_frozen BK241.out 1; have hz33 : wz6.cell? ⟨gb242, 0, none⟩ = some (.int .i64 a1_0) := (blk_cell BK242.out 0).trans rfl; have hz34 : wz6.cell? ⟨gb242, 1, none⟩ = some (.int .i64 a1_1) := (blk_cell BK242.out 1).trans rfl; have hz13 := blk_frozen BK242.out 0; have hz14 := blk_frozen BK242.out 1; have hz35 : wz6.cell? ⟨gb243, 0, none⟩ = some (.int .i64 a2_0) := (blk_cell BK243.out 0).trans rfl; have hz36 : wz6.cell? ⟨gb243, 1, none⟩ = some (.int .i64 a2_1) := (blk_cell BK243.out 1).trans rfl; have hz17 := blk_frozen BK243.out 0; have hz18 := blk_frozen BK243.out 1) | (go_at_call 45; (with_reducible refine (point_between.calls a0_1 a1_1 a2_1 t250 _ A10.out).mono ?_); rintro e wz7 ⟨rfl, hb⟩; have n0_ := bA (Kd.R_below (by (with_reducible repeat (first | apply Kd.R_alloc | apply Kd.R_drewN | apply Kd.R_drew)); exact HO246.out) hb); have n1_ := bA (bB BK241 hb); have n2_ := bA (bB BK242 hb); have n3_ := bA (bB BK243 hb); have n4_ := bA (bS hb); clear HO246; clear BK241; clear BK242; clear BK243; clear HB; have HO246 := n0_; have BK241 := n1_; have BK242 := n2_; have BK243 := n3_; have HB := n4_; clear n0_ n1_ n2_ n3_ n4_; (try clear hb); (try clear hb2); (try clear hk); (try clear hi)) | ((with_reducible refine gate_dst (N := 10) rfl ?_); refine Kd.R_lit k31 _ 31 ?hg (N := 10) ?hd (xs := ([(⟨a0_0, a0_1⟩ : S31), (⟨a1_0, a1_1⟩ : S31), (⟨a2_0, a2_1⟩ : S31)] : List (S31))) (inner := [.int .i64 a0_0, .int .i64 a0_1, .int .i64 a1_0, .int .i64 a1_1, .int .i64 a2_0, .int .i64 a2_1]) (ok := fun _ => True) (okp := fun _ => True) ?hr ?hp (fun _ hk => hk) trivial (Below.refl _ _) (Nat.le_refl _) (by simp) ?_; (case hd => rfl); (case hg => rfl); (case hr => first | (go_simp; done) | (go_simp; rfl)); (case hp => exact (Reps.c2 (show Kd.M k31 _ _ _ (⟨a0_0, a0_1⟩ : S31) [.int .i64 a0_0, .int .i64 a0_1] from (k31_mkM _ _ _ (⟨a0_0, a0_1⟩ : S31) )) (Reps.c2 (show Kd.M k31 _ _ _ (⟨a1_0, a1_1⟩ : S31) [.int .i64 a1_0, .int .i64 a1_1] from (k31_mkM _ _ _ (⟨a1_0, a1_1⟩ : S31) )) (Reps.c2 (show Kd.M k31 _ _ _ (⟨a2_0, a2_1⟩ : S31) [.int .i64 a2_0, .int .i64 a2_1] from (k31_mkM _ _ _ (⟨a2_0, a2_1⟩ : S31) )) (Reps.none _ _))))); intro v245 wz3 ho46 hb hg_ hnew_; clear hg_ hnew_; (first | rw [← Ny244.out] at ho46 | (simp only [Int.reduceToNat] at ho46; rw [← Ny244.out] at ho46)); have n0_ := bA (Kd.R_lower (bN (bN (bN ho46 BK241) BK242) BK243) bY); have n1_ := bA (bB BK241 hb); have n2_ := bA (bB BK242 hb); have n3_ := bA (bB BK243 hb); have n4_ := bA (bS hb); clear BK241; clear BK242; clear BK243; clear HB; have HO246 := n0_; have BK241 := n1_; have BK242 := n2_; have BK243 := n3_; have HB := n4_; clear n0_ n1_ n2_ n3_ n4_; clear hb ho46; obtain ⟨Ao47, co47, eo47⟩ := Kd.R_slice HO246.out; subst eo47) | ((first | ((with_reducible refine gate_callee (f := 39) rfl ?_); refine bC (some 11) Try.func39 #[.slice Ao47 y244.length co47] ?_) | go_at_call 39); (with_reducible refine (point_right.calls k _ _ y244 true _ ?side1 ?side2 A4.out).mono ?_); (case side1 => repeat (first | exact (Kd.R_reads' HO246.out).2.2 | (with_reducible refine Kd.C_alloc ?_ _) | (with_reducible refine Kd.C_drewN ?_ _) | (with_reducible refine Kd.C_drew ?_))); (case side2 => exact (Kd.R_reads' HO246.out).2.1); rintro e wz4 ⟨rfl, hb⟩; (first | refine ⟨_, rfl, ?_⟩ | skip); have n0_ := bA (Kd.R_below (by (with_reducible repeat (first | apply Kd.R_alloc | apply Kd.R_drewN | apply Kd.R_drew)); exact HO246.out) hb); have n1_ := bA (bB BK241 hb); have n2_ := bA (bB BK242 hb); have n3_ := bA (bB BK243 hb); have n4_ := bA (bS hb); clear HO246; clear BK241; clear BK242; clear BK243; clear HB; have HO246 := n0_; have BK241 := n1_; have BK242 := n2_; have BK243 := n3_; have HB := n4_; clear n0_ n1_ n2_ n3_ n4_; (try clear hb); (try clear hb2); (try clear hk); (try clear hi); have hz19 : wz4.cell? ⟨gb242, 0, none⟩ = some (.int .i64 a1_0) := (blk_cell BK242.out 0).trans rfl; have hz20 : wz4.cell? ⟨gb242, 1, none⟩ = some (.int .i64 a1_1) := (blk_cell BK242.out 1).trans rfl; have hz13 := blk_frozen BK242.out 0; have hz14 := blk_frozen BK242.out 1; have hz21 : wz4.cell? ⟨gb243, 0, none⟩ = some (.int .i64 a2_0) := (blk_cell BK243.out 0).trans rfl; have hz22 : wz4.cell? ⟨gb243, 1, none⟩ = some (.int .i64 a2_1) := (blk_cell BK243.out 1).trans rfl; have hz17 := blk_frozen BK243.out 0; have hz18 := blk_frozen BK243.out 1; have hz23 : wz4.cell? ⟨gb241, 0, none⟩ = some (.int .i64 a0_0) := (blk_cell BK241.out 0).trans rfl; have hz24 : wz4.cell? ⟨gb241, 1, none⟩ = some (.int .i64 a0_1) := (blk_cell BK241.out 1).trans rfl; have hz7 := blk_frozen BK241.out 0; have hz8 := blk_frozen BK241.out 1) | (go_at_call 45; (with_reducible refine (point_between.calls a0_0 a1_0 a2_0 false _ A8.out).mono ?_); rintro e wz6 ⟨rfl, hb⟩; have n0_ := bA (Kd.R_below (by (with_reducible repeat (first | apply Kd.R_alloc | apply Kd.R_drewN | apply Kd.R_drew)); exact HO246.out) hb); have n1_ := bA (bB BK241 hb); have n2_ := bA (bB BK242 hb); have n3_ := bA (bB BK243 hb); have n4_ := bA (bS hb); clear HO246; clear BK241; clear BK242; clear BK243; clear HB; have HO246 := n0_; have BK241 := n1_; have BK242 := n2_; have BK243 := n3_; have HB := n4_; clear n0_ n1_ n2_ n3_ n4_; (try clear hb); (try clear hb2); (try clear hk); (try clear hi)) | ((with_reducible refine gate_dst (N := 10) rfl ?_); refine Kd.R_lit k31 _ 31 ?hg (N := 10) ?hd (xs := ([(⟨a0_0, a0_1⟩ : S31), (⟨a1_0, a1_1⟩ : S31), (⟨a2_0, a2_1⟩ : S31)] : List (S31))) (inner := [.int .i64 a0_0, .int .i64 a0_1, .int .i64 a1_0, .int .i64 a1_1, .int .i64 a2_0, .int .i64 a2_1]) (ok := fun _ => True) (okp := fun _ => True) ?hr ?hp (fun _ hk => hk) trivial (Below.refl _ _) (Nat.le_refl _) (by simp) ?_; (case hd => rfl); (case hg => rfl); (case hr => first | (go_simp; done) | (go_simp; rfl)); (case hp => exact (Reps.c2 (show Kd.M k31 _ _ _ (⟨a0_0, a0_1⟩ : S31) [.int .i64 a0_0, .int .i64 a0_1] from (k31_mkM _ _ _ (⟨a0_0, a0_1⟩ : S31) )) (Reps.c2 (show Kd.M k31 _ _ _ (⟨a1_0, a1_1⟩ : S31) [.int .i64 a1_0, .int .i64 a1_1] from (k31_mkM _ _ _ (⟨a1_0, a1_1⟩ : S31) )) (Reps.c2 (show Kd.M k31 _ _ _ (⟨a2_0, a2_1⟩ : S31) [.int .i64 a2_0, .int .i64 a2_1] from (k31_mkM _ _ _ (⟨a2_0, a2_1⟩ : S31) )) (Reps.none _ _))))); intro v245 wz3 ho67 hb hg_ hnew_; clear hg_ hnew_; (first | rw [← Ny244.out] at ho67 | (simp only [Int.reduceToNat] at ho67; rw [← Ny244.out] at ho67)); have n0_ := bA (Kd.R_lower (bN (bN (bN ho67 BK241) BK242) BK243) bY); have n1_ := bA (bB BK241 hb); have n2_ := bA (bB BK242 hb); have n3_ := bA (bB BK243 hb); have n4_ := bA (bS hb); clear BK241; clear BK242; clear BK243; clear HB; have HO246 := n0_; have BK241 := n1_; have BK242 := n2_; have BK243 := n3_; have HB := n4_; clear n0_ n1_ n2_ n3_ n4_; clear hb ho67; obtain ⟨Ao68, co68, eo68⟩ := Kd.R_slice HO246.out; subst eo68) | ((first | ((with_reducible refine gate_callee (f := 39) rfl ?_); refine bC (some 11) Try.func39 #[.slice Ao68 y244.length co68] ?_) | go_at_call 39); (with_reducible refine (point_right.calls k _ _ y244 true _ ?side1 ?side2 A4.out).mono ?_); (case side1 => repeat (first | exact (Kd.R_reads' HO246.out).2.2 | (with_reducible refine Kd.C_alloc ?_ _) | (with_reducible refine Kd.C_drewN ?_ _) | (with_reducible refine Kd.C_drew ?_))); (case side2 => exact (Kd.R_reads' HO246.out).2.1); rintro e wz4 ⟨rfl, hb⟩; (first | refine ⟨_, rfl, ?_⟩ | skip); have n0_ := bA (Kd.R_below (by (with_reducible repeat (first | apply Kd.R_alloc | apply Kd.R_drewN | apply Kd.R_drew)); exact HO246.out) hb); have n1_ := bA (bB BK241 hb); have n2_ := bA (bB BK242 hb); have n3_ := bA (bB BK243 hb); have n4_ := bA (bS hb); clear HO246; clear BK241; clear BK242; clear BK243; clear HB; have HO246 := n0_; have BK241 := n1_; have BK242 := n2_; have BK243 := n3_; have HB := n4_; clear n0_ n1_ n2_ n3_ n4_; (try clear hb); (try clear hb2); (try clear hk); (try clear hi); have hz19 : wz4.cell? ⟨gb242, 0, none⟩ = some (.int .i64 a1_0) := (blk_cell BK242.out 0).trans rfl; have hz20 : wz4.cell? ⟨gb242, 1, none⟩ = some (.int .i64 a1_1) := (blk_cell BK242.out 1).trans rfl; have hz13 := blk_frozen BK242.out 0; have hz14 := blk_frozen BK242.out 1; have hz21 : wz4.cell? ⟨gb243, 0, none⟩ = some (.int .i64 a2_0) := (blk_cell BK243.out 0).trans rfl; have hz22 : wz4.cell? ⟨gb243, 1, none⟩ = some (.int .i64 a2_1) := (blk_cell BK243.out 1).trans rfl; have hz17 := blk_frozen BK243.out 0; have hz18 := blk_frozen BK243.out 1; have hz23 : wz4.cell? ⟨gb241, 0, none⟩ = some (.int .i64 a0_0) := (blk_cell BK241.out 0).trans rfl; have hz24 : wz4.cell? ⟨gb241, 1, none⟩ = some (.int .i64 a0_1) := (blk_cell BK241.out 1).trans rfl; have hz7 := blk_frozen BK241.out 0; have hz8 := blk_frozen BK241.out 1) | ((with_reducible refine gate_dst (N := 10) rfl ?_); refine Kd.R_lit k31 _ 31 ?hg (N := 10) ?hd (xs := ([(⟨a0_0, a0_1⟩ : S31), (⟨a1_0, a1_1⟩ : S31), (⟨a2_0, a2_1⟩ : S31)] : List (S31))) (inner := [.int .i64 a0_0, .int .i64 a0_1, .int .i64 a1_0, .int .i64 a1_1, .int .i64 a2_0, .int .i64 a2_1]) (ok := fun _ => True) (okp := fun _ => True) ?hr ?hp (fun _ hk => hk) trivial (Below.refl _ _) (Nat.le_refl _) (by simp) ?_; (case hd => rfl); (case hg => rfl); (case hr => first | (go_simp; done) | (go_simp; rfl)); (case hp => exact (Reps.c2 (show Kd.M k31 _ _ _ (⟨a0_0, a0_1⟩ : S31) [.int .i64 a0_0, .int .i64 a0_1] from (k31_mkM _ _ _ (⟨a0_0, a0_1⟩ : S31) )) (Reps.c2 (show Kd.M k31 _ _ _ (⟨a1_0, a1_1⟩ : S31) [.int .i64 a1_0, .int .i64 a1_1] from (k31_mkM _ _ _ (⟨a1_0, a1_1⟩ : S31) )) (Reps.c2 (show Kd.M k31 _ _ _ (⟨a2_0, a2_1⟩ : S31) [.int .i64 a2_0, .int .i64 a2_1] from (k31_mkM _ _ _ (⟨a2_0, a2_1⟩ : S31) )) (Reps.none _ _))))); intro v245 wz3 ho84 hb hg_ hnew_; clear hg_ hnew_; (first | rw [← Ny244.out] at ho84 | (simp only [Int.reduceToNat] at ho84; rw [← Ny244.out] at ho84)); have n0_ := bA (Kd.R_lower (bN (bN (bN ho84 BK241) BK242) BK243) bY); have n1_ := bA (bB BK241 hb); have n2_ := bA (bB BK242 hb); have n3_ := bA (bB BK243 hb); have n4_ := bA (bS hb); clear BK241; clear BK242; clear BK243; clear HB; have HO246 := n0_; have BK241 := n1_; have BK242 := n2_; have BK243 := n3_; have HB := n4_; clear n0_ n1_ n2_ n3_ n4_; clear hb ho84; obtain ⟨Ao85, co85, eo85⟩ := Kd.R_slice HO246.out; subst eo85) | ((first | ((with_reducible refine gate_callee (f := 39) rfl ?_); refine bC (some 11) Try.func39 #[.slice Ao85 y244.length co85] ?_) | go_at_call 39); (with_reducible refine (point_right.calls k _ _ y244 false _ ?side1 ?side2 A4.out).mono ?_); (case side1 => repeat (first | exact (Kd.R_reads' HO246.out).2.2 | (with_reducible refine Kd.C_alloc ?_ _) | (with_reducible refine Kd.C_drewN ?_ _) | (with_reducible refine Kd.C_drew ?_))); (case side2 => exact (Kd.R_reads' HO246.out).2.1); rintro e wz4 ⟨rfl, hb⟩; (first | refine ⟨_, rfl, ?_⟩ | skip); have n0_ := bA (Kd.R_below (by (with_reducible repeat (first | apply Kd.R_alloc | apply Kd.R_drewN | apply Kd.R_drew)); exact HO246.out) hb); have n1_ := bA (bB BK241 hb); have n2_ := bA (bB BK242 hb); have n3_ := bA (bB BK243 hb); have n4_ := bA (bS hb); clear HO246; clear BK241; clear BK242; clear BK243; clear HB; have HO246 := n0_; have BK241 := n1_; have BK242 := n2_; have BK243 := n3_; have HB := n4_; clear n0_ n1_ n2_ n3_ n4_; (try clear hb); (try clear hb2); (try clear hk); (try clear hi)))
 all_goals (go_ret; exact bF)
end Go.Proofs.Ytlifeghjcgbfnaa.G
