-- Written by a program of this session out of the translation; Lean checks it.
import Derived.Test.YtlifeghjcgbfnaaGx0
import Derived.Test.YtlifeghjcgbfnaaGx1
import Derived.Test.YtlifeghjcgbfnaaGx8
import Derived.Test.YtlifeghjcgbfnaaGx9
namespace Go.Proofs.Ytlifeghjcgbfnaa.G
open Go.RowKit Go.Proofs.YtlifeghjcgbfnaaW.PrintWords Go.Proofs.YtlifeghjcgbfnaaW.PrintLast Go.Proofs.YtlifeghjcgbfnaaW.PrintMore
attribute [local go_sem] max2_int min2_int max_two min_two max_three min_three max_four min_four   -- for this text's walks alone
set_option linter.unusedVariables false
set_option linter.unusedSimpArgs false

attribute [local go_sem high] eqA31
/-! ### point_Meet: function 22 -/
def point_Meet.f (k : Nat) (a0_0 : Int) (a0_1 : Int) (a1_0 : Int) (a1_1 : Int) (a2_0 : Int) (a2_1 : Int) (a3_0 : Int) (a3_1 : Int) : Option (Bool) := (point_right.f k (([(⟨a0_0, a0_1⟩ : S31), (⟨a1_0, a1_1⟩ : S31), (⟨a2_0, a2_1⟩ : S31), (⟨a3_0, a3_1⟩ : S31)] : List (S31)))).bind fun t258 => (if t258 = true then ((point_On.f k a0_0 a0_1 a2_0 a2_1 a3_0 a3_1).bind fun t259 => (if t259 = true then (some true) else ((point_On.f k a1_0 a1_1 a2_0 a2_1 a3_0 a3_1).bind fun t260 => (if t260 = true then (some true) else ((point_On.f k a2_0 a2_1 a0_0 a0_1 a1_0 a1_1).bind fun t261 => (if t261 = true then (some true) else ((point_On.f k a3_0 a3_1 a0_0 a0_1 a1_0 a1_1).bind fun t262 => (if t262 = true then (some true) else ((point_Turn.f k a0_0 a0_1 a1_0 a1_1 a2_0 a2_1).bind fun t263 => ((point_Turn.f k a0_0 a0_1 a1_0 a1_1 a3_0 a3_1).bind fun t264 => (if (wrap64 (t263 * t264)) < 0 then ((point_Turn.f k a2_0 a2_1 a3_0 a3_1 a0_0 a0_1).bind fun t265 => ((point_Turn.f k a2_0 a2_1 a3_0 a3_1 a1_0 a1_1).bind fun t266 => (some (decide ((wrap64 (t265 * t266)) < 0))))) else (some false)))))))))))) else (some false))
theorem point_Meet.mono : ∀ a0 a1 a2 a3 a4 a5 a6 a7 k, LeO (point_Meet.f k a0 a1 a2 a3 a4 a5 a6 a7) (point_Meet.f (k + 1) a0 a1 a2 a3 a4 a5 a6 a7) := by
 intro a0 a1 a2 a3 a4 a5 a6 a7 k
 unfold point_Meet.f
 repeat' first
   | (with_reducible exact point_On.mono _ _ _ _ _ _ _)
   | (with_reducible exact point_Turn.mono _ _ _ _ _ _ _)
   | (with_reducible exact point_right.mono _ _)
   | (with_reducible exact LeO.refl _)
   | (with_reducible exact LeO.none _)
   | (with_reducible refine LeO.ite ?_ ?_)
   | (with_reducible refine LeO.bind ?_ (fun _ => ?_))
   | exact point_On.mono _ _ _ _ _ _ _
   | exact point_Turn.mono _ _ _ _ _ _ _
   | exact point_right.mono _ _
   | exact LeO.none _
   | refine LeO.ite ?_ ?_
   | refine LeO.bind ?_ (fun _ => ?_)
def point_Meet.T8 : Bool × List (List Nat × List Nat) := (true, [([], []), ([], []), ([], []), ([0, 1, 2], [0, 1, 2]), ([], []), ([], []), ([], []), ([4, 5, 6, 3], [4, 5, 6]), ([3, 7], [3, 7]), ([8], [8]), ([9, 7], [9]), ([10], [10]), ([10], [10]), ([10], [10]), ([11, 12, 13, 10, 10], [10, 11, 12, 13]), ([10], [10]), ([10], [10]), ([10], [10]), ([15, 16, 17, 14, 10], [10, 15, 16, 17]), ([14, 18, 10], [10, 14, 18]), ([19, 10], [10, 19]), ([10, 20], [10, 20]), ([21, 18, 0, 1, 2, 3, 4, 5, 6, 7, 8, 9, 10, 11, 12, 13, 14, 15, 16, 17, 18, 19, 20, 21], [21])])
def point_Meet.B8 : List Nat := [0, 0, 0, 7, 0, 0, 0, 127, 255, 511, 1023, 2047, 2047, 2047, 16383, 2047, 2047, 2047, 262143, 524287, 1048575, 2097151, 4194303]
theorem point_Meet.tab8 : rtab .any (opsOf Try.f22 8) = point_Meet.T8 := by kernel_rfl
theorem point_Meet.bits8 : waitsOk point_Meet.T8.2 point_Meet.B8 = true := by kernel_rfl
set_option maxHeartbeats 8000000 in
set_option maxRecDepth 100000 in
theorem point_Meet.calls (k : Nat) (a0_0 : Int) (a0_1 : Int) (a1_0 : Int) (a1_1 : Int) (a2_0 : Int) (a2_1 : Int) (a3_0 : Int) (a3_1 : Int) (r : Bool) (w : World) (h : point_Meet.f k a0_0 a0_1 a1_0 a1_1 a2_0 a2_1 a3_0 a3_1 = some r) :
  Calls Try.prog 22 #[.agg #[.int .i64 a0_0, .int .i64 a0_1], .agg #[.int .i64 a1_0, .int .i64 a1_1], .agg #[.int .i64 a2_0, .int .i64 a2_1], .agg #[.int .i64 a3_0, .int .i64 a3_1]] w fun e w' => e = .returned (.bool r) ∧ Below w.heap.size w w' := by
 have hu31 := Try.underlying31
 have HB := bA (Below.refl w.heap.size w)
 have H : ((point_right.f k (([(⟨a0_0, a0_1⟩ : S31), (⟨a1_0, a1_1⟩ : S31), (⟨a2_0, a2_1⟩ : S31), (⟨a3_0, a3_1⟩ : S31)] : List (S31)))).bind fun t258 => (if t258 = true then ((point_On.f k a0_0 a0_1 a2_0 a2_1 a3_0 a3_1).bind fun t259 => (if t259 = true then (some true) else ((point_On.f k a1_0 a1_1 a2_0 a2_1 a3_0 a3_1).bind fun t260 => (if t260 = true then (some true) else ((point_On.f k a2_0 a2_1 a0_0 a0_1 a1_0 a1_1).bind fun t261 => (if t261 = true then (some true) else ((point_On.f k a3_0 a3_1 a0_0 a0_1 a1_0 a1_1).bind fun t262 => (if t262 = true then (some true) else ((point_Turn.f k a0_0 a0_1 a1_0 a1_1 a2_0 a2_1).bind fun t263 => ((point_Turn.f k a0_0 a0_1 a1_0 a1_1 a3_0 a3_1).bind fun t264 => (if (wrap64 (t263 * t264)) < 0 then ((point_Turn.f k a2_0 a2_1 a3_0 a3_1 a0_0 a0_1).bind fun t265 => ((point_Turn.f k a2_0 a2_1 a3_0 a3_1 a1_0 a1_1).bind fun t266 => (some (decide ((wrap64 (t265 * t266)) < 0))))) else (some false)))))))))))) else (some false))) = some r := h
 clear h
 obtain ⟨y255, hy255⟩ : ∃ y_ : List (S31), y_ = (([(⟨a0_0, a0_1⟩ : S31), (⟨a1_0, a1_1⟩ : S31), (⟨a2_0, a2_1⟩ : S31), (⟨a3_0, a3_1⟩ : S31)] : List (S31))) := ⟨_, rfl⟩
 replace H : ((point_right.f k y255).bind fun t258 => (if t258 = true then ((point_On.f k a0_0 a0_1 a2_0 a2_1 a3_0 a3_1).bind fun t259 => (if t259 = true then (some true) else ((point_On.f k a1_0 a1_1 a2_0 a2_1 a3_0 a3_1).bind fun t260 => (if t260 = true then (some true) else ((point_On.f k a2_0 a2_1 a0_0 a0_1 a1_0 a1_1).bind fun t261 => (if t261 = true then (some true) else ((point_On.f k a3_0 a3_1 a0_0 a0_1 a1_0 a1_1).bind fun t262 => (if t262 = true then (some true) else ((point_Turn.f k a0_0 a0_1 a1_0 a1_1 a2_0 a2_1).bind fun t263 => ((point_Turn.f k a0_0 a0_1 a1_0 a1_1 a3_0 a3_1).bind fun t264 => (if (wrap64 (t263 * t264)) < 0 then ((point_Turn.f k a2_0 a2_1 a3_0 a3_1 a0_0 a0_1).bind fun t265 => ((point_Turn.f k a2_0 a2_1 a3_0 a3_1 a1_0 a1_1).bind fun t266 => (some (decide ((wrap64 (t265 * t266)) < 0))))) else (some false)))))))))))) else (some false))) = some r := by first | (rw [hy255]; with_reducible exact H) | (have H2_ := (Option.bind_some _ _).symm.trans H; rw [hy255]; with_reducible exact H2_) | (have H2_ := (Option.bind_some _ _).symm.trans H; with_reducible exact H2_) | with_reducible exact H | (rw [hy255]; exact H) | exact H
 have Ny255 := bA hy255
 clear hy255
 replace H := Option.bind_eq_some_iff.mp H
 obtain ⟨t258, A50, H⟩ := H
 replace H : (if t258 = true then ((point_On.f k a0_0 a0_1 a2_0 a2_1 a3_0 a3_1).bind fun t259 => (if t259 = true then (some true) else ((point_On.f k a1_0 a1_1 a2_0 a2_1 a3_0 a3_1).bind fun t260 => (if t260 = true then (some true) else ((point_On.f k a2_0 a2_1 a0_0 a0_1 a1_0 a1_1).bind fun t261 => (if t261 = true then (some true) else ((point_On.f k a3_0 a3_1 a0_0 a0_1 a1_0 a1_1).bind fun t262 => (if t262 = true then (some true) else ((point_Turn.f k a0_0 a0_1 a1_0 a1_1 a2_0 a2_1).bind fun t263 => ((point_Turn.f k a0_0 a0_1 a1_0 a1_1 a3_0 a3_1).bind fun t264 => (if (wrap64 (t263 * t264)) < 0 then ((point_Turn.f k a2_0 a2_1 a3_0 a3_1 a0_0 a0_1).bind fun t265 => ((point_Turn.f k a2_0 a2_1 a3_0 a3_1 a1_0 a1_1).bind fun t266 => (some (decide ((wrap64 (t265 * t266)) < 0))))) else (some false)))))))))))) else (some false)) = some r := H
 have A5 := bA A50
 clear A50
 by_cases c6 : t258 = true
 ·subst c6
  rw [if_pos rfl] at H
  replace H := Option.bind_eq_some_iff.mp H
  obtain ⟨t259, A70, H⟩ := H
  replace H : (if t259 = true then (some true) else ((point_On.f k a1_0 a1_1 a2_0 a2_1 a3_0 a3_1).bind fun t260 => (if t260 = true then (some true) else ((point_On.f k a2_0 a2_1 a0_0 a0_1 a1_0 a1_1).bind fun t261 => (if t261 = true then (some true) else ((point_On.f k a3_0 a3_1 a0_0 a0_1 a1_0 a1_1).bind fun t262 => (if t262 = true then (some true) else ((point_Turn.f k a0_0 a0_1 a1_0 a1_1 a2_0 a2_1).bind fun t263 => ((point_Turn.f k a0_0 a0_1 a1_0 a1_1 a3_0 a3_1).bind fun t264 => (if (wrap64 (t263 * t264)) < 0 then ((point_Turn.f k a2_0 a2_1 a3_0 a3_1 a0_0 a0_1).bind fun t265 => ((point_Turn.f k a2_0 a2_1 a3_0 a3_1 a1_0 a1_1).bind fun t266 => (some (decide ((wrap64 (t265 * t266)) < 0))))) else (some false))))))))))) = some r := H
  have A7 := bA A70
  clear A70
  by_cases c8 : t259 = true
  ·subst c8
   rw [if_pos rfl] at H
   obtain rfl := Option.some.inj H
   go_enter Try.func22, Try.ntmps22
   go_wp2_with (first | ((with_reducible refine gate_dst (N := 4) rfl ?_); refine bE (N := 4) (cs := #[.int .i64 a0_0, .int .i64 a0_1]) (t := 31) ?_; intro gb251 hg w9 hbox hb; have n0_ := bA (bS hb); have n1_ := bA (hbox); have n2_ := bA ((bZ hg : w.heap.size ≤ gb251)); have n3_ := bA ((bZ hg : w.heap.size ≤ gb251)); clear HB; have HB := n0_; have BK251 := n1_; have GW251 := n2_; have GE251 := n3_; clear n0_ n1_ n2_ n3_; clear hb hbox hg) | ((with_reducible refine gate_dst (N := 5) rfl ?_); refine bE (N := 5) (cs := #[.int .i64 a1_0, .int .i64 a1_1]) (t := 31) ?_; intro gb252 hg w10 hbox hb; have n0_ := bA (bB BK251 hb); have n1_ := bA (bS hb); have n2_ := bA (hbox); have n3_ := bA ((bZ hg : w.heap.size ≤ gb252)); have n4_ := bA ((bZ hg : w.heap.size ≤ gb252)); have n5_ := bA ((bL BK251 hg : gb251 ≠ gb252)); have n6_ := bA ((bG BK251 hg : gb252 ≠ gb251)); clear BK251; clear HB; have BK251 := n0_; have HB := n1_; have BK252 := n2_; have GW252 := n3_; have GE252 := n4_; have NB251_252 := n5_; have NB252_251 := n6_; clear n0_ n1_ n2_ n3_ n4_ n5_ n6_; clear hb hbox hg) | ((with_reducible refine gate_dst (N := 6) rfl ?_); refine bE (N := 6) (cs := #[.int .i64 a2_0, .int .i64 a2_1]) (t := 31) ?_; intro gb253 hg w11 hbox hb; have n0_ := bA (bB BK251 hb); have n1_ := bA (bB BK252 hb); have n2_ := bA (bS hb); have n3_ := bA (hbox); have n4_ := bA ((bZ hg : w.heap.size ≤ gb253)); have n5_ := bA ((bZ hg : w.heap.size ≤ gb253)); have n6_ := bA ((bL BK251 hg : gb251 ≠ gb253)); have n7_ := bA ((bG BK251 hg : gb253 ≠ gb251)); have n8_ := bA ((bL BK252 hg : gb252 ≠ gb253)); have n9_ := bA ((bG BK252 hg : gb253 ≠ gb252)); clear BK251; clear BK252; clear HB; have BK251 := n0_; have BK252 := n1_; have HB := n2_; have BK253 := n3_; have GW253 := n4_; have GE253 := n5_; have NB251_253 := n6_; have NB253_251 := n7_; have NB252_253 := n8_; have NB253_252 := n9_; clear n0_ n1_ n2_ n3_ n4_ n5_ n6_ n7_ n8_ n9_; clear hb hbox hg) | ((with_reducible refine gate_dst (N := 7) rfl ?_); refine bE (N := 7) (cs := #[.int .i64 a3_0, .int .i64 a3_1]) (t := 31) ?_; intro gb254 hg w12 hbox hb; have n0_ := bA (bB BK251 hb); have n1_ := bA (bB BK252 hb); have n2_ := bA (bB BK253 hb); have n3_ := bA (bS hb); have n4_ := bA (hbox); have n5_ := bA ((bZ hg : w.heap.size ≤ gb254)); have n6_ := bA ((bZ hg : w.heap.size ≤ gb254)); have n7_ := bA ((bL BK251 hg : gb251 ≠ gb254)); have n8_ := bA ((bG BK251 hg : gb254 ≠ gb251)); have n9_ := bA ((bL BK252 hg : gb252 ≠ gb254)); have n10_ := bA ((bG BK252 hg : gb254 ≠ gb252)); have n11_ := bA ((bL BK253 hg : gb253 ≠ gb254)); have n12_ := bA ((bG BK253 hg : gb254 ≠ gb253)); clear BK251; clear BK252; clear BK253; clear HB; have BK251 := n0_; have BK252 := n1_; have BK253 := n2_; have HB := n3_; have BK254 := n4_; have GW254 := n5_; have GE254 := n6_; have NB251_254 := n7_; have NB254_251 := n8_; have NB252_254 := n9_; have NB254_252 := n10_; have NB253_254 := n11_; have NB254_253 := n12_; clear n0_ n1_ n2_ n3_ n4_ n5_ n6_ n7_ n8_ n9_ n10_ n11_ n12_; clear hb hbox hg; have hnb13 := NB251_252.out; have hnc13 := NB252_251.out; have hnb14 := NB251_253.out; have hnc14 := NB253_251.out; have hnb15 := NB251_254.out; have hnc15 := NB254_251.out; have hcz16_0 : w12.cell? ⟨gb251, 0, none⟩ = some (.int .i64 a0_0) := (blk_cell BK251.out 0).trans rfl; have hcz16_1 : w12.cell? ⟨gb251, 1, none⟩ = some (.int .i64 a0_1) := (blk_cell BK251.out 1).trans rfl; have hfz16_0 := blk_frozen BK251.out 0; have hfz16_1 := blk_frozen BK251.out 1; have hnb17 := NB252_253.out; have hnc17 := NB253_252.out; have hnb18 := NB252_254.out; have hnc18 := NB254_252.out; have hcz19_0 : w12.cell? ⟨gb252, 0, none⟩ = some (.int .i64 a1_0) := (blk_cell BK252.out 0).trans rfl; have hcz19_1 : w12.cell? ⟨gb252, 1, none⟩ = some (.int .i64 a1_1) := (blk_cell BK252.out 1).trans rfl; have hfz19_0 := blk_frozen BK252.out 0; have hfz19_1 := blk_frozen BK252.out 1; have hnb20 := NB253_254.out; have hnc20 := NB254_253.out; have hcz21_0 : w12.cell? ⟨gb253, 0, none⟩ = some (.int .i64 a2_0) := (blk_cell BK253.out 0).trans rfl; have hcz21_1 : w12.cell? ⟨gb253, 1, none⟩ = some (.int .i64 a2_1) := (blk_cell BK253.out 1).trans rfl; have hfz21_0 := blk_frozen BK253.out 0; have hfz21_1 := blk_frozen BK253.out 1; have hcz22_0 : w12.cell? ⟨gb254, 0, none⟩ = some (.int .i64 a3_0) := (blk_cell BK254.out 0).trans rfl; have hcz22_1 : w12.cell? ⟨gb254, 1, none⟩ = some (.int .i64 a3_1) := (blk_cell BK254.out 1).trans rfl; have hfz22_0 := blk_frozen BK254.out 0; have hfz22_1 := blk_frozen BK254.out 1) | ((with_reducible refine gate_dst (N := 14) rfl ?_); refine Kd.R_lit k31 _ 31 ?hg (N := 14) ?hd (xs := ([(⟨a0_0, a0_1⟩ : S31), (⟨a1_0, a1_1⟩ : S31), (⟨a2_0, a2_1⟩ : S31), (⟨a3_0, a3_1⟩ : S31)] : List (S31))) (inner := [.int .i64 a0_0, .int .i64 a0_1, .int .i64 a1_0, .int .i64 a1_1, .int .i64 a2_0, .int .i64 a2_1, .int .i64 a3_0, .int .i64 a3_1]) (ok := fun _ => True) (okp := fun _ => True) ?hr ?hp (fun _ hk => hk) trivial (Below.refl _ _) (Nat.le_refl _) (by simp) ?_; (case hd => rfl); (case hg => rfl); (case hr => first | (go_simp; done) | (go_simp; rfl)); (case hp => exact (Reps.c2 (show Kd.M k31 _ _ _ (⟨a0_0, a0_1⟩ : S31) [.int .i64 a0_0, .int .i64 a0_1] from (k31_mkM _ _ _ (⟨a0_0, a0_1⟩ : S31) )) (Reps.c2 (show Kd.M k31 _ _ _ (⟨a1_0, a1_1⟩ : S31) [.int .i64 a1_0, .int .i64 a1_1] from (k31_mkM _ _ _ (⟨a1_0, a1_1⟩ : S31) )) (Reps.c2 (show Kd.M k31 _ _ _ (⟨a2_0, a2_1⟩ : S31) [.int .i64 a2_0, .int .i64 a2_1] from (k31_mkM _ _ _ (⟨a2_0, a2_1⟩ : S31) )) (Reps.c2 (show Kd.M k31 _ _ _ (⟨a3_0, a3_1⟩ : S31) [.int .i64 a3_0, .int .i64 a3_1] from (k31_mkM _ _ _ (⟨a3_0, a3_1⟩ : S31) )) (Reps.none _ _)))))); intro v256 w23 ho24 hb hg_ hnew_; clear hg_ hnew_; (first | rw [← Ny255.out] at ho24 | (simp only [Int.reduceToNat] at ho24; rw [← Ny255.out] at ho24)); have n0_ := bA (Kd.R_lower (bN (bN (bN (bN ho24 BK251) BK252) BK253) BK254) bY); have n1_ := bA (bB BK251 hb); have n2_ := bA (bB BK252 hb); have n3_ := bA (bB BK253 hb); have n4_ := bA (bB BK254 hb); have n5_ := bA (bS hb); clear BK251; clear BK252; clear BK253; clear BK254; clear HB; have HO257 := n0_; have BK251 := n1_; have BK252 := n2_; have BK253 := n3_; have BK254 := n4_; have HB := n5_; clear n0_ n1_ n2_ n3_ n4_ n5_; clear hb ho24; obtain ⟨Ao25, co25, eo25⟩ := Kd.R_slice HO257.out; subst eo25) | ((first | ((with_reducible refine gate_callee (f := 39) rfl ?_); refine bC (some 15) Try.func39 #[.slice Ao25 y255.length co25] ?_) | go_at_call 39); (with_reducible refine (point_right.calls k _ _ y255 true _ ?side1 ?side2 A5.out).mono ?_); (case side1 => repeat (first | exact (Kd.R_reads' HO257.out).2.2 | (with_reducible refine Kd.C_alloc ?_ _) | (with_reducible refine Kd.C_drewN ?_ _) | (with_reducible refine Kd.C_drew ?_))); (case side2 => exact (Kd.R_reads' HO257.out).2.1); rintro e w26 ⟨rfl, hb⟩; (first | refine ⟨_, rfl, ?_⟩ | skip); have n0_ := bA (Kd.R_below (by (with_reducible repeat (first | apply Kd.R_alloc | apply Kd.R_drewN | apply Kd.R_drew)); exact HO257.out) hb); have n1_ := bA (bB BK251 hb); have n2_ := bA (bB BK252 hb); have n3_ := bA (bB BK253 hb); have n4_ := bA (bB BK254 hb); have n5_ := bA (bS hb); clear HO257; clear BK251; clear BK252; clear BK253; clear BK254; clear HB; have HO257 := n0_; have BK251 := n1_; have BK252 := n2_; have BK253 := n3_; have BK254 := n4_; have HB := n5_; clear n0_ n1_ n2_ n3_ n4_ n5_; (try clear hb); (try clear hb2); (try clear hk); (try clear hi); have hcz27_0 : w26.cell? ⟨gb251, 0, none⟩ = some (.int .i64 a0_0) := (blk_cell BK251.out 0).trans rfl; have hcz27_1 : w26.cell? ⟨gb251, 1, none⟩ = some (.int .i64 a0_1) := (blk_cell BK251.out 1).trans rfl; have hfz27_0 := blk_frozen BK251.out 0; have hfz27_1 := blk_frozen BK251.out 1; have hcz28_0 : w26.cell? ⟨gb253, 0, none⟩ = some (.int .i64 a2_0) := (blk_cell BK253.out 0).trans rfl; have hcz28_1 : w26.cell? ⟨gb253, 1, none⟩ = some (.int .i64 a2_1) := (blk_cell BK253.out 1).trans rfl; have hfz28_0 := blk_frozen BK253.out 0; have hfz28_1 := blk_frozen BK253.out 1; have hcz29_0 : w26.cell? ⟨gb254, 0, none⟩ = some (.int .i64 a3_0) := (blk_cell BK254.out 0).trans rfl; have hcz29_1 : w26.cell? ⟨gb254, 1, none⟩ = some (.int .i64 a3_1) := (blk_cell BK254.out 1).trans rfl; have hfz29_0 := blk_frozen BK254.out 0; have hfz29_1 := blk_frozen BK254.out 1) | ((first | ((with_reducible refine gate_callee (f := 20) rfl ?_); refine bC (some 21) Try.func20 #[.agg #[.int .i64 a0_0, .int .i64 a0_1], .agg #[.int .i64 a2_0, .int .i64 a2_1], .agg #[.int .i64 a3_0, .int .i64 a3_1]] ?_) | go_at_call 20); (with_reducible refine (point_On.calls k a0_0 a0_1 a2_0 a2_1 a3_0 a3_1 true _ A7.out).mono ?_); rintro e w30 ⟨rfl, hb⟩; (first | refine ⟨_, rfl, ?_⟩ | skip); have n0_ := bA (Kd.R_below (by (with_reducible repeat (first | apply Kd.R_alloc | apply Kd.R_drewN | apply Kd.R_drew)); exact HO257.out) hb); have n1_ := bA (bB BK251 hb); have n2_ := bA (bB BK252 hb); have n3_ := bA (bB BK253 hb); have n4_ := bA (bB BK254 hb); have n5_ := bA (bS hb); clear HO257; clear BK251; clear BK252; clear BK253; clear BK254; clear HB; have HO257 := n0_; have BK251 := n1_; have BK252 := n2_; have BK253 := n3_; have BK254 := n4_; have HB := n5_; clear n0_ n1_ n2_ n3_ n4_ n5_; (try clear hb); (try clear hb2); (try clear hk); (try clear hi)))
   go_ret
   exact bF
  ·replace c8 := Bool.eq_false_iff.mpr c8
   subst c8
   rw [if_neg (show ¬ (false = true) by decide)] at H
   replace H := Option.bind_eq_some_iff.mp H
   obtain ⟨t260, A310, H⟩ := H
   replace H : (if t260 = true then (some true) else ((point_On.f k a2_0 a2_1 a0_0 a0_1 a1_0 a1_1).bind fun t261 => (if t261 = true then (some true) else ((point_On.f k a3_0 a3_1 a0_0 a0_1 a1_0 a1_1).bind fun t262 => (if t262 = true then (some true) else ((point_Turn.f k a0_0 a0_1 a1_0 a1_1 a2_0 a2_1).bind fun t263 => ((point_Turn.f k a0_0 a0_1 a1_0 a1_1 a3_0 a3_1).bind fun t264 => (if (wrap64 (t263 * t264)) < 0 then ((point_Turn.f k a2_0 a2_1 a3_0 a3_1 a0_0 a0_1).bind fun t265 => ((point_Turn.f k a2_0 a2_1 a3_0 a3_1 a1_0 a1_1).bind fun t266 => (some (decide ((wrap64 (t265 * t266)) < 0))))) else (some false))))))))) = some r := H
   have A31 := bA A310
   clear A310
   by_cases c32 : t260 = true
   ·subst c32
    rw [if_pos rfl] at H
    obtain rfl := Option.some.inj H
    go_enter Try.func22, Try.ntmps22
    go_wp2_with (first | ((with_reducible refine gate_dst (N := 4) rfl ?_); refine bE (N := 4) (cs := #[.int .i64 a0_0, .int .i64 a0_1]) (t := 31) ?_; intro gb251 hg w33 hbox hb; have n0_ := bA (bS hb); have n1_ := bA (hbox); have n2_ := bA ((bZ hg : w.heap.size ≤ gb251)); have n3_ := bA ((bZ hg : w.heap.size ≤ gb251)); clear HB; have HB := n0_; have BK251 := n1_; have GW251 := n2_; have GE251 := n3_; clear n0_ n1_ n2_ n3_; clear hb hbox hg) | ((with_reducible refine gate_dst (N := 5) rfl ?_); refine bE (N := 5) (cs := #[.int .i64 a1_0, .int .i64 a1_1]) (t := 31) ?_; intro gb252 hg w34 hbox hb; have n0_ := bA (bB BK251 hb); have n1_ := bA (bS hb); have n2_ := bA (hbox); have n3_ := bA ((bZ hg : w.heap.size ≤ gb252)); have n4_ := bA ((bZ hg : w.heap.size ≤ gb252)); have n5_ := bA ((bL BK251 hg : gb251 ≠ gb252)); have n6_ := bA ((bG BK251 hg : gb252 ≠ gb251)); clear BK251; clear HB; have BK251 := n0_; have HB := n1_; have BK252 := n2_; have GW252 := n3_; have GE252 := n4_; have NB251_252 := n5_; have NB252_251 := n6_; clear n0_ n1_ n2_ n3_ n4_ n5_ n6_; clear hb hbox hg) | ((with_reducible refine gate_dst (N := 6) rfl ?_); refine bE (N := 6) (cs := #[.int .i64 a2_0, .int .i64 a2_1]) (t := 31) ?_; intro gb253 hg w35 hbox hb; have n0_ := bA (bB BK251 hb); have n1_ := bA (bB BK252 hb); have n2_ := bA (bS hb); have n3_ := bA (hbox); have n4_ := bA ((bZ hg : w.heap.size ≤ gb253)); have n5_ := bA ((bZ hg : w.heap.size ≤ gb253)); have n6_ := bA ((bL BK251 hg : gb251 ≠ gb253)); have n7_ := bA ((bG BK251 hg : gb253 ≠ gb251)); have n8_ := bA ((bL BK252 hg : gb252 ≠ gb253)); have n9_ := bA ((bG BK252 hg : gb253 ≠ gb252)); clear BK251; clear BK252; clear HB; have BK251 := n0_; have BK252 := n1_; have HB := n2_; have BK253 := n3_; have GW253 := n4_; have GE253 := n5_; have NB251_253 := n6_; have NB253_251 := n7_; have NB252_253 := n8_; have NB253_252 := n9_; clear n0_ n1_ n2_ n3_ n4_ n5_ n6_ n7_ n8_ n9_; clear hb hbox hg) | ((with_reducible refine gate_dst (N := 7) rfl ?_); refine bE (N := 7) (cs := #[.int .i64 a3_0, .int .i64 a3_1]) (t := 31) ?_; intro gb254 hg w36 hbox hb; have n0_ := bA (bB BK251 hb); have n1_ := bA (bB BK252 hb); have n2_ := bA (bB BK253 hb); have n3_ := bA (bS hb); have n4_ := bA (hbox); have n5_ := bA ((bZ hg : w.heap.size ≤ gb254)); have n6_ := bA ((bZ hg : w.heap.size ≤ gb254)); have n7_ := bA ((bL BK251 hg : gb251 ≠ gb254)); have n8_ := bA ((bG BK251 hg : gb254 ≠ gb251)); have n9_ := bA ((bL BK252 hg : gb252 ≠ gb254)); have n10_ := bA ((bG BK252 hg : gb254 ≠ gb252)); have n11_ := bA ((bL BK253 hg : gb253 ≠ gb254)); have n12_ := bA ((bG BK253 hg : gb254 ≠ gb253)); clear BK251; clear BK252; clear BK253; clear HB; have BK251 := n0_; have BK252 := n1_; have BK253 := n2_; have HB := n3_; have BK254 := n4_; have GW254 := n5_; have GE254 := n6_; have NB251_254 := n7_; have NB254_251 := n8_; have NB252_254 := n9_; have NB254_252 := n10_; have NB253_254 := n11_; have NB254_253 := n12_; clear n0_ n1_ n2_ n3_ n4_ n5_ n6_ n7_ n8_ n9_ n10_ n11_ n12_; clear hb hbox hg; have hnb37 := NB251_252.out; have hnc37 := NB252_251.out; have hnb38 := NB251_253.out; have hnc38 := NB253_251.out; have hnb39 := NB251_254.out; have hnc39 := NB254_251.out; have hcz40_0 : w36.cell? ⟨gb251, 0, none⟩ = some (.int .i64 a0_0) := (blk_cell BK251.out 0).trans rfl; have hcz40_1 : w36.cell? ⟨gb251, 1, none⟩ = some (.int .i64 a0_1) := (blk_cell BK251.out 1).trans rfl; have hfz40_0 := blk_frozen BK251.out 0; have hfz40_1 := blk_frozen BK251.out 1; have hnb41 := NB252_253.out; have hnc41 := NB253_252.out; have hnb42 := NB252_254.out; have hnc42 := NB254_252.out; have hcz43_0 : w36.cell? ⟨gb252, 0, none⟩ = some (.int .i64 a1_0) := (blk_cell BK252.out 0).trans rfl; have hcz43_1 : w36.cell? ⟨gb252, 1, none⟩ = some (.int .i64 a1_1) := (blk_cell BK252.out 1).trans rfl; have hfz43_0 := blk_frozen BK252.out 0; have hfz43_1 := blk_frozen BK252.out 1; have hnb44 := NB253_254.out; have hnc44 := NB254_253.out; have hcz45_0 : w36.cell? ⟨gb253, 0, none⟩ = some (.int .i64 a2_0) := (blk_cell BK253.out 0).trans rfl; have hcz45_1 : w36.cell? ⟨gb253, 1, none⟩ = some (.int .i64 a2_1) := (blk_cell BK253.out 1).trans rfl; have hfz45_0 := blk_frozen BK253.out 0; have hfz45_1 := blk_frozen BK253.out 1; have hcz46_0 : w36.cell? ⟨gb254, 0, none⟩ = some (.int .i64 a3_0) := (blk_cell BK254.out 0).trans rfl; have hcz46_1 : w36.cell? ⟨gb254, 1, none⟩ = some (.int .i64 a3_1) := (blk_cell BK254.out 1).trans rfl; have hfz46_0 := blk_frozen BK254.out 0; have hfz46_1 := blk_frozen BK254.out 1) | ((with_reducible refine gate_dst (N := 14) rfl ?_); refine Kd.R_lit k31 _ 31 ?hg (N := 14) ?hd (xs := ([(⟨a0_0, a0_1⟩ : S31), (⟨a1_0, a1_1⟩ : S31), (⟨a2_0, a2_1⟩ : S31), (⟨a3_0, a3_1⟩ : S31)] : List (S31))) (inner := [.int .i64 a0_0, .int .i64 a0_1, .int .i64 a1_0, .int .i64 a1_1, .int .i64 a2_0, .int .i64 a2_1, .int .i64 a3_0, .int .i64 a3_1]) (ok := fun _ => True) (okp := fun _ => True) ?hr ?hp (fun _ hk => hk) trivial (Below.refl _ _) (Nat.le_refl _) (by simp) ?_; (case hd => rfl); (case hg => rfl); (case hr => first | (go_simp; done) | (go_simp; rfl)); (case hp => exact (Reps.c2 (show Kd.M k31 _ _ _ (⟨a0_0, a0_1⟩ : S31) [.int .i64 a0_0, .int .i64 a0_1] from (k31_mkM _ _ _ (⟨a0_0, a0_1⟩ : S31) )) (Reps.c2 (show Kd.M k31 _ _ _ (⟨a1_0, a1_1⟩ : S31) [.int .i64 a1_0, .int .i64 a1_1] from (k31_mkM _ _ _ (⟨a1_0, a1_1⟩ : S31) )) (Reps.c2 (show Kd.M k31 _ _ _ (⟨a2_0, a2_1⟩ : S31) [.int .i64 a2_0, .int .i64 a2_1] from (k31_mkM _ _ _ (⟨a2_0, a2_1⟩ : S31) )) (Reps.c2 (show Kd.M k31 _ _ _ (⟨a3_0, a3_1⟩ : S31) [.int .i64 a3_0, .int .i64 a3_1] from (k31_mkM _ _ _ (⟨a3_0, a3_1⟩ : S31) )) (Reps.none _ _)))))); intro v256 w47 ho48 hb hg_ hnew_; clear hg_ hnew_; (first | rw [← Ny255.out] at ho48 | (simp only [Int.reduceToNat] at ho48; rw [← Ny255.out] at ho48)); have n0_ := bA (Kd.R_lower (bN (bN (bN (bN ho48 BK251) BK252) BK253) BK254) bY); have n1_ := bA (bB BK251 hb); have n2_ := bA (bB BK252 hb); have n3_ := bA (bB BK253 hb); have n4_ := bA (bB BK254 hb); have n5_ := bA (bS hb); clear BK251; clear BK252; clear BK253; clear BK254; clear HB; have HO257 := n0_; have BK251 := n1_; have BK252 := n2_; have BK253 := n3_; have BK254 := n4_; have HB := n5_; clear n0_ n1_ n2_ n3_ n4_ n5_; clear hb ho48; obtain ⟨Ao49, co49, eo49⟩ := Kd.R_slice HO257.out; subst eo49) | ((first | ((with_reducible refine gate_callee (f := 39) rfl ?_); refine bC (some 15) Try.func39 #[.slice Ao49 y255.length co49] ?_) | go_at_call 39); (with_reducible refine (point_right.calls k _ _ y255 true _ ?side1 ?side2 A5.out).mono ?_); (case side1 => repeat (first | exact (Kd.R_reads' HO257.out).2.2 | (with_reducible refine Kd.C_alloc ?_ _) | (with_reducible refine Kd.C_drewN ?_ _) | (with_reducible refine Kd.C_drew ?_))); (case side2 => exact (Kd.R_reads' HO257.out).2.1); rintro e w50 ⟨rfl, hb⟩; (first | refine ⟨_, rfl, ?_⟩ | skip); have n0_ := bA (Kd.R_below (by (with_reducible repeat (first | apply Kd.R_alloc | apply Kd.R_drewN | apply Kd.R_drew)); exact HO257.out) hb); have n1_ := bA (bB BK251 hb); have n2_ := bA (bB BK252 hb); have n3_ := bA (bB BK253 hb); have n4_ := bA (bB BK254 hb); have n5_ := bA (bS hb); clear HO257; clear BK251; clear BK252; clear BK253; clear BK254; clear HB; have HO257 := n0_; have BK251 := n1_; have BK252 := n2_; have BK253 := n3_; have BK254 := n4_; have HB := n5_; clear n0_ n1_ n2_ n3_ n4_ n5_; (try clear hb); (try clear hb2); (try clear hk); (try clear hi); have hcz51_0 : w50.cell? ⟨gb251, 0, none⟩ = some (.int .i64 a0_0) := (blk_cell BK251.out 0).trans rfl; have hcz51_1 : w50.cell? ⟨gb251, 1, none⟩ = some (.int .i64 a0_1) := (blk_cell BK251.out 1).trans rfl; have hfz51_0 := blk_frozen BK251.out 0; have hfz51_1 := blk_frozen BK251.out 1; have hcz52_0 : w50.cell? ⟨gb253, 0, none⟩ = some (.int .i64 a2_0) := (blk_cell BK253.out 0).trans rfl; have hcz52_1 : w50.cell? ⟨gb253, 1, none⟩ = some (.int .i64 a2_1) := (blk_cell BK253.out 1).trans rfl; have hfz52_0 := blk_frozen BK253.out 0; have hfz52_1 := blk_frozen BK253.out 1; have hcz53_0 : w50.cell? ⟨gb254, 0, none⟩ = some (.int .i64 a3_0) := (blk_cell BK254.out 0).trans rfl; have hcz53_1 : w50.cell? ⟨gb254, 1, none⟩ = some (.int .i64 a3_1) := (blk_cell BK254.out 1).trans rfl; have hfz53_0 := blk_frozen BK254.out 0; have hfz53_1 := blk_frozen BK254.out 1) | ((first | ((with_reducible refine gate_callee (f := 20) rfl ?_); refine bC (some 21) Try.func20 #[.agg #[.int .i64 a0_0, .int .i64 a0_1], .agg #[.int .i64 a2_0, .int .i64 a2_1], .agg #[.int .i64 a3_0, .int .i64 a3_1]] ?_) | go_at_call 20); (with_reducible refine (point_On.calls k a0_0 a0_1 a2_0 a2_1 a3_0 a3_1 false _ A7.out).mono ?_); rintro e w54 ⟨rfl, hb⟩; (first | refine ⟨_, rfl, ?_⟩ | skip); have n0_ := bA (Kd.R_below (by (with_reducible repeat (first | apply Kd.R_alloc | apply Kd.R_drewN | apply Kd.R_drew)); exact HO257.out) hb); have n1_ := bA (bB BK251 hb); have n2_ := bA (bB BK252 hb); have n3_ := bA (bB BK253 hb); have n4_ := bA (bB BK254 hb); have n5_ := bA (bS hb); clear HO257; clear BK251; clear BK252; clear BK253; clear BK254; clear HB; have HO257 := n0_; have BK251 := n1_; have BK252 := n2_; have BK253 := n3_; have BK254 := n4_; have HB := n5_; clear n0_ n1_ n2_ n3_ n4_ n5_; (try clear hb); (try clear hb2); (try clear hk); (try clear hi); have hcz55_0 : w54.cell? ⟨gb252, 0, none⟩ = some (.int .i64 a1_0) := (blk_cell BK252.out 0).trans rfl; have hcz55_1 : w54.cell? ⟨gb252, 1, none⟩ = some (.int .i64 a1_1) := (blk_cell BK252.out 1).trans rfl; have hfz55_0 := blk_frozen BK252.out 0; have hfz55_1 := blk_frozen BK252.out 1; have hcz56_0 : w54.cell? ⟨gb253, 0, none⟩ = some (.int .i64 a2_0) := (blk_cell BK253.out 0).trans rfl; have hcz56_1 : w54.cell? ⟨gb253, 1, none⟩ = some (.int .i64 a2_1) := (blk_cell BK253.out 1).trans rfl; have hfz56_0 := blk_frozen BK253.out 0; have hfz56_1 := blk_frozen BK253.out 1; have hcz57_0 : w54.cell? ⟨gb254, 0, none⟩ = some (.int .i64 a3_0) := (blk_cell BK254.out 0).trans rfl; have hcz57_1 : w54.cell? ⟨gb254, 1, none⟩ = some (.int .i64 a3_1) := (blk_cell BK254.out 1).trans rfl; have hfz57_0 := blk_frozen BK254.out 0; have hfz57_1 := blk_frozen BK254.out 1) | ((first | ((with_reducible refine gate_callee (f := 20) rfl ?_); refine bC (some 25) Try.func20 #[.agg #[.int .i64 a1_0, .int .i64 a1_1], .agg #[.int .i64 a2_0, .int .i64 a2_1], .agg #[.int .i64 a3_0, .int .i64 a3_1]] ?_) | go_at_call 20); (with_reducible refine (point_On.calls k a1_0 a1_1 a2_0 a2_1 a3_0 a3_1 true _ A31.out).mono ?_); rintro e w58 ⟨rfl, hb⟩; (first | refine ⟨_, rfl, ?_⟩ | skip); have n0_ := bA (Kd.R_below (by (with_reducible repeat (first | apply Kd.R_alloc | apply Kd.R_drewN | apply Kd.R_drew)); exact HO257.out) hb); have n1_ := bA (bB BK251 hb); have n2_ := bA (bB BK252 hb); have n3_ := bA (bB BK253 hb); have n4_ := bA (bB BK254 hb); have n5_ := bA (bS hb); clear HO257; clear BK251; clear BK252; clear BK253; clear BK254; clear HB; have HO257 := n0_; have BK251 := n1_; have BK252 := n2_; have BK253 := n3_; have BK254 := n4_; have HB := n5_; clear n0_ n1_ n2_ n3_ n4_ n5_; (try clear hb); (try clear hb2); (try clear hk); (try clear hi)))
    go_ret
    exact bF
   ·replace c32 := Bool.eq_false_iff.mpr c32
    subst c32
    rw [if_neg (show ¬ (false = true) by decide)] at H
    replace H := Option.bind_eq_some_iff.mp H
    obtain ⟨t261, A590, H⟩ := H
    replace H : (if t261 = true then (some true) else ((point_On.f k a3_0 a3_1 a0_0 a0_1 a1_0 a1_1).bind fun t262 => (if t262 = true then (some true) else ((point_Turn.f k a0_0 a0_1 a1_0 a1_1 a2_0 a2_1).bind fun t263 => ((point_Turn.f k a0_0 a0_1 a1_0 a1_1 a3_0 a3_1).bind fun t264 => (if (wrap64 (t263 * t264)) < 0 then ((point_Turn.f k a2_0 a2_1 a3_0 a3_1 a0_0 a0_1).bind fun t265 => ((point_Turn.f k a2_0 a2_1 a3_0 a3_1 a1_0 a1_1).bind fun t266 => (some (decide ((wrap64 (t265 * t266)) < 0))))) else (some false))))))) = some r := H
    have A59 := bA A590
    clear A590
    by_cases c60 : t261 = true
    ·subst c60
     rw [if_pos rfl] at H
     obtain rfl := Option.some.inj H
     go_enter Try.func22, Try.ntmps22
     go_wp2_with (first | ((with_reducible refine gate_dst (N := 4) rfl ?_); refine bE (N := 4) (cs := #[.int .i64 a0_0, .int .i64 a0_1]) (t := 31) ?_; intro gb251 hg w61 hbox hb; have n0_ := bA (bS hb); have n1_ := bA (hbox); have n2_ := bA ((bZ hg : w.heap.size ≤ gb251)); have n3_ := bA ((bZ hg : w.heap.size ≤ gb251)); clear HB; have HB := n0_; have BK251 := n1_; have GW251 := n2_; have GE251 := n3_; clear n0_ n1_ n2_ n3_; clear hb hbox hg) | ((with_reducible refine gate_dst (N := 5) rfl ?_); refine bE (N := 5) (cs := #[.int .i64 a1_0, .int .i64 a1_1]) (t := 31) ?_; intro gb252 hg w62 hbox hb; have n0_ := bA (bB BK251 hb); have n1_ := bA (bS hb); have n2_ := bA (hbox); have n3_ := bA ((bZ hg : w.heap.size ≤ gb252)); have n4_ := bA ((bZ hg : w.heap.size ≤ gb252)); have n5_ := bA ((bL BK251 hg : gb251 ≠ gb252)); have n6_ := bA ((bG BK251 hg : gb252 ≠ gb251)); clear BK251; clear HB; have BK251 := n0_; have HB := n1_; have BK252 := n2_; have GW252 := n3_; have GE252 := n4_; have NB251_252 := n5_; have NB252_251 := n6_; clear n0_ n1_ n2_ n3_ n4_ n5_ n6_; clear hb hbox hg) | ((with_reducible refine gate_dst (N := 6) rfl ?_); refine bE (N := 6) (cs := #[.int .i64 a2_0, .int .i64 a2_1]) (t := 31) ?_; intro gb253 hg w63 hbox hb; have n0_ := bA (bB BK251 hb); have n1_ := bA (bB BK252 hb); have n2_ := bA (bS hb); have n3_ := bA (hbox); have n4_ := bA ((bZ hg : w.heap.size ≤ gb253)); have n5_ := bA ((bZ hg : w.heap.size ≤ gb253)); have n6_ := bA ((bL BK251 hg : gb251 ≠ gb253)); have n7_ := bA ((bG BK251 hg : gb253 ≠ gb251)); have n8_ := bA ((bL BK252 hg : gb252 ≠ gb253)); have n9_ := bA ((bG BK252 hg : gb253 ≠ gb252)); clear BK251; clear BK252; clear HB; have BK251 := n0_; have BK252 := n1_; have HB := n2_; have BK253 := n3_; have GW253 := n4_; have GE253 := n5_; have NB251_253 := n6_; have NB253_251 := n7_; have NB252_253 := n8_; have NB253_252 := n9_; clear n0_ n1_ n2_ n3_ n4_ n5_ n6_ n7_ n8_ n9_; clear hb hbox hg) | ((with_reducible refine gate_dst (N := 7) rfl ?_); refine bE (N := 7) (cs := #[.int .i64 a3_0, .int .i64 a3_1]) (t := 31) ?_; intro gb254 hg w64 hbox hb; have n0_ := bA (bB BK251 hb); have n1_ := bA (bB BK252 hb); have n2_ := bA (bB BK253 hb); have n3_ := bA (bS hb); have n4_ := bA (hbox); have n5_ := bA ((bZ hg : w.heap.size ≤ gb254)); have n6_ := bA ((bZ hg : w.heap.size ≤ gb254)); have n7_ := bA ((bL BK251 hg : gb251 ≠ gb254)); have n8_ := bA ((bG BK251 hg : gb254 ≠ gb251)); have n9_ := bA ((bL BK252 hg : gb252 ≠ gb254)); have n10_ := bA ((bG BK252 hg : gb254 ≠ gb252)); have n11_ := bA ((bL BK253 hg : gb253 ≠ gb254)); have n12_ := bA ((bG BK253 hg : gb254 ≠ gb253)); clear BK251; clear BK252; clear BK253; clear HB; have BK251 := n0_; have BK252 := n1_; have BK253 := n2_; have HB := n3_; have BK254 := n4_; have GW254 := n5_; have GE254 := n6_; have NB251_254 := n7_; have NB254_251 := n8_; have NB252_254 := n9_; have NB254_252 := n10_; have NB253_254 := n11_; have NB254_253 := n12_; clear n0_ n1_ n2_ n3_ n4_ n5_ n6_ n7_ n8_ n9_ n10_ n11_ n12_; clear hb hbox hg; have hnb65 := NB251_252.out; have hnc65 := NB252_251.out; have hnb66 := NB251_253.out; have hnc66 := NB253_251.out; have hnb67 := NB251_254.out; have hnc67 := NB254_251.out; have hcz68_0 : w64.cell? ⟨gb251, 0, none⟩ = some (.int .i64 a0_0) := (blk_cell BK251.out 0).trans rfl; have hcz68_1 : w64.cell? ⟨gb251, 1, none⟩ = some (.int .i64 a0_1) := (blk_cell BK251.out 1).trans rfl; have hfz68_0 := blk_frozen BK251.out 0; have hfz68_1 := blk_frozen BK251.out 1; have hnb69 := NB252_253.out; have hnc69 := NB253_252.out; have hnb70 := NB252_254.out; have hnc70 := NB254_252.out; have hcz71_0 : w64.cell? ⟨gb252, 0, none⟩ = some (.int .i64 a1_0) := (blk_cell BK252.out 0).trans rfl; have hcz71_1 : w64.cell? ⟨gb252, 1, none⟩ = some (.int .i64 a1_1) := (blk_cell BK252.out 1).trans rfl; have hfz71_0 := blk_frozen BK252.out 0; have hfz71_1 := blk_frozen BK252.out 1; have hnb72 := NB253_254.out; have hnc72 := NB254_253.out; have hcz73_0 : w64.cell? ⟨gb253, 0, none⟩ = some (.int .i64 a2_0) := (blk_cell BK253.out 0).trans rfl; have hcz73_1 : w64.cell? ⟨gb253, 1, none⟩ = some (.int .i64 a2_1) := (blk_cell BK253.out 1).trans rfl; have hfz73_0 := blk_frozen BK253.out 0; have hfz73_1 := blk_frozen BK253.out 1; have hcz74_0 : w64.cell? ⟨gb254, 0, none⟩ = some (.int .i64 a3_0) := (blk_cell BK254.out 0).trans rfl; have hcz74_1 : w64.cell? ⟨gb254, 1, none⟩ = some (.int .i64 a3_1) := (blk_cell BK254.out 1).trans rfl; have hfz74_0 := blk_frozen BK254.out 0; have hfz74_1 := blk_frozen BK254.out 1) | ((with_reducible refine gate_dst (N := 14) rfl ?_); refine Kd.R_lit k31 _ 31 ?hg (N := 14) ?hd (xs := ([(⟨a0_0, a0_1⟩ : S31), (⟨a1_0, a1_1⟩ : S31), (⟨a2_0, a2_1⟩ : S31), (⟨a3_0, a3_1⟩ : S31)] : List (S31))) (inner := [.int .i64 a0_0, .int .i64 a0_1, .int .i64 a1_0, .int .i64 a1_1, .int .i64 a2_0, .int .i64 a2_1, .int .i64 a3_0, .int .i64 a3_1]) (ok := fun _ => True) (okp := fun _ => True) ?hr ?hp (fun _ hk => hk) trivial (Below.refl _ _) (Nat.le_refl _) (by simp) ?_; (case hd => rfl); (case hg => rfl); (case hr => first | (go_simp; done) | (go_simp; rfl)); (case hp => exact (Reps.c2 (show Kd.M k31 _ _ _ (⟨a0_0, a0_1⟩ : S31) [.int .i64 a0_0, .int .i64 a0_1] from (k31_mkM _ _ _ (⟨a0_0, a0_1⟩ : S31) )) (Reps.c2 (show Kd.M k31 _ _ _ (⟨a1_0, a1_1⟩ : S31) [.int .i64 a1_0, .int .i64 a1_1] from (k31_mkM _ _ _ (⟨a1_0, a1_1⟩ : S31) )) (Reps.c2 (show Kd.M k31 _ _ _ (⟨a2_0, a2_1⟩ : S31) [.int .i64 a2_0, .int .i64 a2_1] from (k31_mkM _ _ _ (⟨a2_0, a2_1⟩ : S31) )) (Reps.c2 (show Kd.M k31 _ _ _ (⟨a3_0, a3_1⟩ : S31) [.int .i64 a3_0, .int .i64 a3_1] from (k31_mkM _ _ _ (⟨a3_0, a3_1⟩ : S31) )) (Reps.none _ _)))))); intro v256 w75 ho76 hb hg_ hnew_; clear hg_ hnew_; (first | rw [← Ny255.out] at ho76 | (simp only [Int.reduceToNat] at ho76; rw [← Ny255.out] at ho76)); have n0_ := bA (Kd.R_lower (bN (bN (bN (bN ho76 BK251) BK252) BK253) BK254) bY); have n1_ := bA (bB BK251 hb); have n2_ := bA (bB BK252 hb); have n3_ := bA (bB BK253 hb); have n4_ := bA (bB BK254 hb); have n5_ := bA (bS hb); clear BK251; clear BK252; clear BK253; clear BK254; clear HB; have HO257 := n0_; have BK251 := n1_; have BK252 := n2_; have BK253 := n3_; have BK254 := n4_; have HB := n5_; clear n0_ n1_ n2_ n3_ n4_ n5_; clear hb ho76; obtain ⟨Ao77, co77, eo77⟩ := Kd.R_slice HO257.out; subst eo77) | ((first | ((with_reducible refine gate_callee (f := 39) rfl ?_); refine bC (some 15) Try.func39 #[.slice Ao77 y255.length co77] ?_) | go_at_call 39); (with_reducible refine (point_right.calls k _ _ y255 true _ ?side1 ?side2 A5.out).mono ?_); (case side1 => repeat (first | exact (Kd.R_reads' HO257.out).2.2 | (with_reducible refine Kd.C_alloc ?_ _) | (with_reducible refine Kd.C_drewN ?_ _) | (with_reducible refine Kd.C_drew ?_))); (case side2 => exact (Kd.R_reads' HO257.out).2.1); rintro e w78 ⟨rfl, hb⟩; (first | refine ⟨_, rfl, ?_⟩ | skip); have n0_ := bA (Kd.R_below (by (with_reducible repeat (first | apply Kd.R_alloc | apply Kd.R_drewN | apply Kd.R_drew)); exact HO257.out) hb); have n1_ := bA (bB BK251 hb); have n2_ := bA (bB BK252 hb); have n3_ := bA (bB BK253 hb); have n4_ := bA (bB BK254 hb); have n5_ := bA (bS hb); clear HO257; clear BK251; clear BK252; clear BK253; clear BK254; clear HB; have HO257 := n0_; have BK251 := n1_; have BK252 := n2_; have BK253 := n3_; have BK254 := n4_; have HB := n5_; clear n0_ n1_ n2_ n3_ n4_ n5_; (try clear hb); (try clear hb2); (try clear hk); (try clear hi); have hcz79_0 : w78.cell? ⟨gb251, 0, none⟩ = some (.int .i64 a0_0) := (blk_cell BK251.out 0).trans rfl; have hcz79_1 : w78.cell? ⟨gb251, 1, none⟩ = some (.int .i64 a0_1) := (blk_cell BK251.out 1).trans rfl; have hfz79_0 := blk_frozen BK251.out 0; have hfz79_1 := blk_frozen BK251.out 1; have hcz80_0 : w78.cell? ⟨gb253, 0, none⟩ = some (.int .i64 a2_0) := (blk_cell BK253.out 0).trans rfl; have hcz80_1 : w78.cell? ⟨gb253, 1, none⟩ = some (.int .i64 a2_1) := (blk_cell BK253.out 1).trans rfl; have hfz80_0 := blk_frozen BK253.out 0; have hfz80_1 := blk_frozen BK253.out 1; have hcz81_0 : w78.cell? ⟨gb254, 0, none⟩ = some (.int .i64 a3_0) := (blk_cell BK254.out 0).trans rfl; have hcz81_1 : w78.cell? ⟨gb254, 1, none⟩ = some (.int .i64 a3_1) := (blk_cell BK254.out 1).trans rfl; have hfz81_0 := blk_frozen BK254.out 0; have hfz81_1 := blk_frozen BK254.out 1) | ((first | ((with_reducible refine gate_callee (f := 20) rfl ?_); refine bC (some 21) Try.func20 #[.agg #[.int .i64 a0_0, .int .i64 a0_1], .agg #[.int .i64 a2_0, .int .i64 a2_1], .agg #[.int .i64 a3_0, .int .i64 a3_1]] ?_) | go_at_call 20); (with_reducible refine (point_On.calls k a0_0 a0_1 a2_0 a2_1 a3_0 a3_1 false _ A7.out).mono ?_); rintro e w82 ⟨rfl, hb⟩; (first | refine ⟨_, rfl, ?_⟩ | skip); have n0_ := bA (Kd.R_below (by (with_reducible repeat (first | apply Kd.R_alloc | apply Kd.R_drewN | apply Kd.R_drew)); exact HO257.out) hb); have n1_ := bA (bB BK251 hb); have n2_ := bA (bB BK252 hb); have n3_ := bA (bB BK253 hb); have n4_ := bA (bB BK254 hb); have n5_ := bA (bS hb); clear HO257; clear BK251; clear BK252; clear BK253; clear BK254; clear HB; have HO257 := n0_; have BK251 := n1_; have BK252 := n2_; have BK253 := n3_; have BK254 := n4_; have HB := n5_; clear n0_ n1_ n2_ n3_ n4_ n5_; (try clear hb); (try clear hb2); (try clear hk); (try clear hi); have hcz83_0 : w82.cell? ⟨gb252, 0, none⟩ = some (.int .i64 a1_0) := (blk_cell BK252.out 0).trans rfl; have hcz83_1 : w82.cell? ⟨gb252, 1, none⟩ = some (.int .i64 a1_1) := (blk_cell BK252.out 1).trans rfl; have hfz83_0 := blk_frozen BK252.out 0; have hfz83_1 := blk_frozen BK252.out 1; have hcz84_0 : w82.cell? ⟨gb253, 0, none⟩ = some (.int .i64 a2_0) := (blk_cell BK253.out 0).trans rfl; have hcz84_1 : w82.cell? ⟨gb253, 1, none⟩ = some (.int .i64 a2_1) := (blk_cell BK253.out 1).trans rfl; have hfz84_0 := blk_frozen BK253.out 0; have hfz84_1 := blk_frozen BK253.out 1; have hcz85_0 : w82.cell? ⟨gb254, 0, none⟩ = some (.int .i64 a3_0) := (blk_cell BK254.out 0).trans rfl; have hcz85_1 : w82.cell? ⟨gb254, 1, none⟩ = some (.int .i64 a3_1) := (blk_cell BK254.out 1).trans rfl; have hfz85_0 := blk_frozen BK254.out 0; have hfz85_1 := blk_frozen BK254.out 1) | ((first | ((with_reducible refine gate_callee (f := 20) rfl ?_); refine bC (some 25) Try.func20 #[.agg #[.int .i64 a1_0, .int .i64 a1_1], .agg #[.int .i64 a2_0, .int .i64 a2_1], .agg #[.int .i64 a3_0, .int .i64 a3_1]] ?_) | go_at_call 20); (with_reducible refine (point_On.calls k a1_0 a1_1 a2_0 a2_1 a3_0 a3_1 false _ A31.out).mono ?_); rintro e w86 ⟨rfl, hb⟩; (first | refine ⟨_, rfl, ?_⟩ | skip); have n0_ := bA (Kd.R_below (by (with_reducible repeat (first | apply Kd.R_alloc | apply Kd.R_drewN | apply Kd.R_drew)); exact HO257.out) hb); have n1_ := bA (bB BK251 hb); have n2_ := bA (bB BK252 hb); have n3_ := bA (bB BK253 hb); have n4_ := bA (bB BK254 hb); have n5_ := bA (bS hb); clear HO257; clear BK251; clear BK252; clear BK253; clear BK254; clear HB; have HO257 := n0_; have BK251 := n1_; have BK252 := n2_; have BK253 := n3_; have BK254 := n4_; have HB := n5_; clear n0_ n1_ n2_ n3_ n4_ n5_; (try clear hb); (try clear hb2); (try clear hk); (try clear hi); have hcz87_0 : w86.cell? ⟨gb253, 0, none⟩ = some (.int .i64 a2_0) := (blk_cell BK253.out 0).trans rfl; have hcz87_1 : w86.cell? ⟨gb253, 1, none⟩ = some (.int .i64 a2_1) := (blk_cell BK253.out 1).trans rfl; have hfz87_0 := blk_frozen BK253.out 0; have hfz87_1 := blk_frozen BK253.out 1; have hcz88_0 : w86.cell? ⟨gb251, 0, none⟩ = some (.int .i64 a0_0) := (blk_cell BK251.out 0).trans rfl; have hcz88_1 : w86.cell? ⟨gb251, 1, none⟩ = some (.int .i64 a0_1) := (blk_cell BK251.out 1).trans rfl; have hfz88_0 := blk_frozen BK251.out 0; have hfz88_1 := blk_frozen BK251.out 1; have hcz89_0 : w86.cell? ⟨gb252, 0, none⟩ = some (.int .i64 a1_0) := (blk_cell BK252.out 0).trans rfl; have hcz89_1 : w86.cell? ⟨gb252, 1, none⟩ = some (.int .i64 a1_1) := (blk_cell BK252.out 1).trans rfl; have hfz89_0 := blk_frozen BK252.out 0; have hfz89_1 := blk_frozen BK252.out 1) | ((first | ((with_reducible refine gate_callee (f := 20) rfl ?_); refine bC (some 29) Try.func20 #[.agg #[.int .i64 a2_0, .int .i64 a2_1], .agg #[.int .i64 a0_0, .int .i64 a0_1], .agg #[.int .i64 a1_0, .int .i64 a1_1]] ?_) | go_at_call 20); (with_reducible refine (point_On.calls k a2_0 a2_1 a0_0 a0_1 a1_0 a1_1 true _ A59.out).mono ?_); rintro e w90 ⟨rfl, hb⟩; (first | refine ⟨_, rfl, ?_⟩ | skip); have n0_ := bA (Kd.R_below (by (with_reducible repeat (first | apply Kd.R_alloc | apply Kd.R_drewN | apply Kd.R_drew)); exact HO257.out) hb); have n1_ := bA (bB BK251 hb); have n2_ := bA (bB BK252 hb); have n3_ := bA (bB BK253 hb); have n4_ := bA (bB BK254 hb); have n5_ := bA (bS hb); clear HO257; clear BK251; clear BK252; clear BK253; clear BK254; clear HB; have HO257 := n0_; have BK251 := n1_; have BK252 := n2_; have BK253 := n3_; have BK254 := n4_; have HB := n5_; clear n0_ n1_ n2_ n3_ n4_ n5_; (try clear hb); (try clear hb2); (try clear hk); (try clear hi)))
     go_ret
     exact bF
    ·replace c60 := Bool.eq_false_iff.mpr c60
     subst c60
     rw [if_neg (show ¬ (false = true) by decide)] at H
     replace H := Option.bind_eq_some_iff.mp H
     obtain ⟨t262, A910, H⟩ := H
     replace H : (if t262 = true then (some true) else ((point_Turn.f k a0_0 a0_1 a1_0 a1_1 a2_0 a2_1).bind fun t263 => ((point_Turn.f k a0_0 a0_1 a1_0 a1_1 a3_0 a3_1).bind fun t264 => (if (wrap64 (t263 * t264)) < 0 then ((point_Turn.f k a2_0 a2_1 a3_0 a3_1 a0_0 a0_1).bind fun t265 => ((point_Turn.f k a2_0 a2_1 a3_0 a3_1 a1_0 a1_1).bind fun t266 => (some (decide ((wrap64 (t265 * t266)) < 0))))) else (some false))))) = some r := H
     have A91 := bA A910
     clear A910
     by_cases c92 : t262 = true
     ·subst c92
      rw [if_pos rfl] at H
      obtain rfl := Option.some.inj H
      go_enter Try.func22, Try.ntmps22
      go_wp2_with (first | ((with_reducible refine gate_dst (N := 4) rfl ?_); refine bE (N := 4) (cs := #[.int .i64 a0_0, .int .i64 a0_1]) (t := 31) ?_; intro gb251 hg w93 hbox hb; have n0_ := bA (bS hb); have n1_ := bA (hbox); have n2_ := bA ((bZ hg : w.heap.size ≤ gb251)); have n3_ := bA ((bZ hg : w.heap.size ≤ gb251)); clear HB; have HB := n0_; have BK251 := n1_; have GW251 := n2_; have GE251 := n3_; clear n0_ n1_ n2_ n3_; clear hb hbox hg) | ((with_reducible refine gate_dst (N := 5) rfl ?_); refine bE (N := 5) (cs := #[.int .i64 a1_0, .int .i64 a1_1]) (t := 31) ?_; intro gb252 hg w94 hbox hb; have n0_ := bA (bB BK251 hb); have n1_ := bA (bS hb); have n2_ := bA (hbox); have n3_ := bA ((bZ hg : w.heap.size ≤ gb252)); have n4_ := bA ((bZ hg : w.heap.size ≤ gb252)); have n5_ := bA ((bL BK251 hg : gb251 ≠ gb252)); have n6_ := bA ((bG BK251 hg : gb252 ≠ gb251)); clear BK251; clear HB; have BK251 := n0_; have HB := n1_; have BK252 := n2_; have GW252 := n3_; have GE252 := n4_; have NB251_252 := n5_; have NB252_251 := n6_; clear n0_ n1_ n2_ n3_ n4_ n5_ n6_; clear hb hbox hg) | ((with_reducible refine gate_dst (N := 6) rfl ?_); refine bE (N := 6) (cs := #[.int .i64 a2_0, .int .i64 a2_1]) (t := 31) ?_; intro gb253 hg w95 hbox hb; have n0_ := bA (bB BK251 hb); have n1_ := bA (bB BK252 hb); have n2_ := bA (bS hb); have n3_ := bA (hbox); have n4_ := bA ((bZ hg : w.heap.size ≤ gb253)); have n5_ := bA ((bZ hg : w.heap.size ≤ gb253)); have n6_ := bA ((bL BK251 hg : gb251 ≠ gb253)); have n7_ := bA ((bG BK251 hg : gb253 ≠ gb251)); have n8_ := bA ((bL BK252 hg : gb252 ≠ gb253)); have n9_ := bA ((bG BK252 hg : gb253 ≠ gb252)); clear BK251; clear BK252; clear HB; have BK251 := n0_; have BK252 := n1_; have HB := n2_; have BK253 := n3_; have GW253 := n4_; have GE253 := n5_; have NB251_253 := n6_; have NB253_251 := n7_; have NB252_253 := n8_; have NB253_252 := n9_; clear n0_ n1_ n2_ n3_ n4_ n5_ n6_ n7_ n8_ n9_; clear hb hbox hg) | ((with_reducible refine gate_dst (N := 7) rfl ?_); refine bE (N := 7) (cs := #[.int .i64 a3_0, .int .i64 a3_1]) (t := 31) ?_; intro gb254 hg w96 hbox hb; have n0_ := bA (bB BK251 hb); have n1_ := bA (bB BK252 hb); have n2_ := bA (bB BK253 hb); have n3_ := bA (bS hb); have n4_ := bA (hbox); have n5_ := bA ((bZ hg : w.heap.size ≤ gb254)); have n6_ := bA ((bZ hg : w.heap.size ≤ gb254)); have n7_ := bA ((bL BK251 hg : gb251 ≠ gb254)); have n8_ := bA ((bG BK251 hg : gb254 ≠ gb251)); have n9_ := bA ((bL BK252 hg : gb252 ≠ gb254)); have n10_ := bA ((bG BK252 hg : gb254 ≠ gb252)); have n11_ := bA ((bL BK253 hg : gb253 ≠ gb254)); have n12_ := bA ((bG BK253 hg : gb254 ≠ gb253)); clear BK251; clear BK252; clear BK253; clear HB; have BK251 := n0_; have BK252 := n1_; have BK253 := n2_; have HB := n3_; have BK254 := n4_; have GW254 := n5_; have GE254 := n6_; have NB251_254 := n7_; have NB254_251 := n8_; have NB252_254 := n9_; have NB254_252 := n10_; have NB253_254 := n11_; have NB254_253 := n12_; clear n0_ n1_ n2_ n3_ n4_ n5_ n6_ n7_ n8_ n9_ n10_ n11_ n12_; clear hb hbox hg; have hnb97 := NB251_252.out; have hnc97 := NB252_251.out; have hnb98 := NB251_253.out; have hnc98 := NB253_251.out; have hnb99 := NB251_254.out; have hnc99 := NB254_251.out; have hcz100_0 : w96.cell? ⟨gb251, 0, none⟩ = some (.int .i64 a0_0) := (blk_cell BK251.out 0).trans rfl; have hcz100_1 : w96.cell? ⟨gb251, 1, none⟩ = some (.int .i64 a0_1) := (blk_cell BK251.out 1).trans rfl; have hfz100_0 := blk_frozen BK251.out 0; have hfz100_1 := blk_frozen BK251.out 1; have hnb101 := NB252_253.out; have hnc101 := NB253_252.out; have hnb102 := NB252_254.out; have hnc102 := NB254_252.out; have hcz103_0 : w96.cell? ⟨gb252, 0, none⟩ = some (.int .i64 a1_0) := (blk_cell BK252.out 0).trans rfl; have hcz103_1 : w96.cell? ⟨gb252, 1, none⟩ = some (.int .i64 a1_1) := (blk_cell BK252.out 1).trans rfl; have hfz103_0 := blk_frozen BK252.out 0; have hfz103_1 := blk_frozen BK252.out 1; have hnb104 := NB253_254.out; have hnc104 := NB254_253.out; have hcz105_0 : w96.cell? ⟨gb253, 0, none⟩ = some (.int .i64 a2_0) := (blk_cell BK253.out 0).trans rfl; have hcz105_1 : w96.cell? ⟨gb253, 1, none⟩ = some (.int .i64 a2_1) := (blk_cell BK253.out 1).trans rfl; have hfz105_0 := blk_frozen BK253.out 0; have hfz105_1 := blk_frozen BK253.out 1; have hcz106_0 : w96.cell? ⟨gb254, 0, none⟩ = some (.int .i64 a3_0) := (blk_cell BK254.out 0).trans rfl; have hcz106_1 : w96.cell? ⟨gb254, 1, none⟩ = some (.int .i64 a3_1) := (blk_cell BK254.out 1).trans rfl; have hfz106_0 := blk_frozen BK254.out 0; have hfz106_1 := blk_frozen BK254.out 1) | ((with_reducible refine gate_dst (N := 14) rfl ?_); refine Kd.R_lit k31 _ 31 ?hg (N := 14) ?hd (xs := ([(⟨a0_0, a0_1⟩ : S31), (⟨a1_0, a1_1⟩ : S31), (⟨a2_0, a2_1⟩ : S31), (⟨a3_0, a3_1⟩ : S31)] : List (S31))) (inner := [.int .i64 a0_0, .int .i64 a0_1, .int .i64 a1_0, .int .i64 a1_1, .int .i64 a2_0, .int .i64 a2_1, .int .i64 a3_0, .int .i64 a3_1]) (ok := fun _ => True) (okp := fun _ => True) ?hr ?hp (fun _ hk => hk) trivial (Below.refl _ _) (Nat.le_refl _) (by simp) ?_; (case hd => rfl); (case hg => rfl); (case hr => first | (go_simp; done) | (go_simp; rfl)); (case hp => exact (Reps.c2 (show Kd.M k31 _ _ _ (⟨a0_0, a0_1⟩ : S31) [.int .i64 a0_0, .int .i64 a0_1] from (k31_mkM _ _ _ (⟨a0_0, a0_1⟩ : S31) )) (Reps.c2 (show Kd.M k31 _ _ _ (⟨a1_0, a1_1⟩ : S31) [.int .i64 a1_0, .int .i64 a1_1] from (k31_mkM _ _ _ (⟨a1_0, a1_1⟩ : S31) )) (Reps.c2 (show Kd.M k31 _ _ _ (⟨a2_0, a2_1⟩ : S31) [.int .i64 a2_0, .int .i64 a2_1] from (k31_mkM _ _ _ (⟨a2_0, a2_1⟩ : S31) )) (Reps.c2 (show Kd.M k31 _ _ _ (⟨a3_0, a3_1⟩ : S31) [.int .i64 a3_0, .int .i64 a3_1] from (k31_mkM _ _ _ (⟨a3_0, a3_1⟩ : S31) )) (Reps.none _ _)))))); intro v256 w107 ho108 hb hg_ hnew_; clear hg_ hnew_; (first | rw [← Ny255.out] at ho108 | (simp only [Int.reduceToNat] at ho108; rw [← Ny255.out] at ho108)); have n0_ := bA (Kd.R_lower (bN (bN (bN (bN ho108 BK251) BK252) BK253) BK254) bY); have n1_ := bA (bB BK251 hb); have n2_ := bA (bB BK252 hb); have n3_ := bA (bB BK253 hb); have n4_ := bA (bB BK254 hb); have n5_ := bA (bS hb); clear BK251; clear BK252; clear BK253; clear BK254; clear HB; have HO257 := n0_; have BK251 := n1_; have BK252 := n2_; have BK253 := n3_; have BK254 := n4_; have HB := n5_; clear n0_ n1_ n2_ n3_ n4_ n5_; clear hb ho108; obtain ⟨Ao109, co109, eo109⟩ := Kd.R_slice HO257.out; subst eo109) | ((first | ((with_reducible refine gate_callee (f := 39) rfl ?_); refine bC (some 15) Try.func39 #[.slice Ao109 y255.length co109] ?_) | go_at_call 39); (with_reducible refine (point_right.calls k _ _ y255 true _ ?side1 ?side2 A5.out).mono ?_); (case side1 => repeat (first | exact (Kd.R_reads' HO257.out).2.2 | (with_reducible refine Kd.C_alloc ?_ _) | (with_reducible refine Kd.C_drewN ?_ _) | (with_reducible refine Kd.C_drew ?_))); (case side2 => exact (Kd.R_reads' HO257.out).2.1); rintro e w110 ⟨rfl, hb⟩; (first | refine ⟨_, rfl, ?_⟩ | skip); have n0_ := bA (Kd.R_below (by (with_reducible repeat (first | apply Kd.R_alloc | apply Kd.R_drewN | apply Kd.R_drew)); exact HO257.out) hb); have n1_ := bA (bB BK251 hb); have n2_ := bA (bB BK252 hb); have n3_ := bA (bB BK253 hb); have n4_ := bA (bB BK254 hb); have n5_ := bA (bS hb); clear HO257; clear BK251; clear BK252; clear BK253; clear BK254; clear HB; have HO257 := n0_; have BK251 := n1_; have BK252 := n2_; have BK253 := n3_; have BK254 := n4_; have HB := n5_; clear n0_ n1_ n2_ n3_ n4_ n5_; (try clear hb); (try clear hb2); (try clear hk); (try clear hi); have hcz111_0 : w110.cell? ⟨gb251, 0, none⟩ = some (.int .i64 a0_0) := (blk_cell BK251.out 0).trans rfl; have hcz111_1 : w110.cell? ⟨gb251, 1, none⟩ = some (.int .i64 a0_1) := (blk_cell BK251.out 1).trans rfl; have hfz111_0 := blk_frozen BK251.out 0; have hfz111_1 := blk_frozen BK251.out 1; have hcz112_0 : w110.cell? ⟨gb253, 0, none⟩ = some (.int .i64 a2_0) := (blk_cell BK253.out 0).trans rfl; have hcz112_1 : w110.cell? ⟨gb253, 1, none⟩ = some (.int .i64 a2_1) := (blk_cell BK253.out 1).trans rfl; have hfz112_0 := blk_frozen BK253.out 0; have hfz112_1 := blk_frozen BK253.out 1; have hcz113_0 : w110.cell? ⟨gb254, 0, none⟩ = some (.int .i64 a3_0) := (blk_cell BK254.out 0).trans rfl; have hcz113_1 : w110.cell? ⟨gb254, 1, none⟩ = some (.int .i64 a3_1) := (blk_cell BK254.out 1).trans rfl; have hfz113_0 := blk_frozen BK254.out 0; have hfz113_1 := blk_frozen BK254.out 1) | ((first | ((with_reducible refine gate_callee (f := 20) rfl ?_); refine bC (some 21) Try.func20 #[.agg #[.int .i64 a0_0, .int .i64 a0_1], .agg #[.int .i64 a2_0, .int .i64 a2_1], .agg #[.int .i64 a3_0, .int .i64 a3_1]] ?_) | go_at_call 20); (with_reducible refine (point_On.calls k a0_0 a0_1 a2_0 a2_1 a3_0 a3_1 false _ A7.out).mono ?_); rintro e w114 ⟨rfl, hb⟩; (first | refine ⟨_, rfl, ?_⟩ | skip); have n0_ := bA (Kd.R_below (by (with_reducible repeat (first | apply Kd.R_alloc | apply Kd.R_drewN | apply Kd.R_drew)); exact HO257.out) hb); have n1_ := bA (bB BK251 hb); have n2_ := bA (bB BK252 hb); have n3_ := bA (bB BK253 hb); have n4_ := bA (bB BK254 hb); have n5_ := bA (bS hb); clear HO257; clear BK251; clear BK252; clear BK253; clear BK254; clear HB; have HO257 := n0_; have BK251 := n1_; have BK252 := n2_; have BK253 := n3_; have BK254 := n4_; have HB := n5_; clear n0_ n1_ n2_ n3_ n4_ n5_; (try clear hb); (try clear hb2); (try clear hk); (try clear hi); have hcz115_0 : w114.cell? ⟨gb252, 0, none⟩ = some (.int .i64 a1_0) := (blk_cell BK252.out 0).trans rfl; have hcz115_1 : w114.cell? ⟨gb252, 1, none⟩ = some (.int .i64 a1_1) := (blk_cell BK252.out 1).trans rfl; have hfz115_0 := blk_frozen BK252.out 0; have hfz115_1 := blk_frozen BK252.out 1; have hcz116_0 : w114.cell? ⟨gb253, 0, none⟩ = some (.int .i64 a2_0) := (blk_cell BK253.out 0).trans rfl; have hcz116_1 : w114.cell? ⟨gb253, 1, none⟩ = some (.int .i64 a2_1) := (blk_cell BK253.out 1).trans rfl; have hfz116_0 := blk_frozen BK253.out 0; have hfz116_1 := blk_frozen BK253.out 1; have hcz117_0 : w114.cell? ⟨gb254, 0, none⟩ = some (.int .i64 a3_0) := (blk_cell BK254.out 0).trans rfl; have hcz117_1 : w114.cell? ⟨gb254, 1, none⟩ = some (.int .i64 a3_1) := (blk_cell BK254.out 1).trans rfl; have hfz117_0 := blk_frozen BK254.out 0; have hfz117_1 := blk_frozen BK254.out 1) | ((first | ((with_reducible refine gate_callee (f := 20) rfl ?_); refine bC (some 25) Try.func20 #[.agg #[.int .i64 a1_0, .int .i64 a1_1], .agg #[.int .i64 a2_0, .int .i64 a2_1], .agg #[.int .i64 a3_0, .int .i64 a3_1]] ?_) | go_at_call 20); (with_reducible refine (point_On.calls k a1_0 a1_1 a2_0 a2_1 a3_0 a3_1 false _ A31.out).mono ?_); rintro e w118 ⟨rfl, hb⟩; (first | refine ⟨_, rfl, ?_⟩ | skip); have n0_ := bA (Kd.R_below (by (with_reducible repeat (first | apply Kd.R_alloc | apply Kd.R_drewN | apply Kd.R_drew)); exact HO257.out) hb); have n1_ := bA (bB BK251 hb); have n2_ := bA (bB BK252 hb); have n3_ := bA (bB BK253 hb); have n4_ := bA (bB BK254 hb); have n5_ := bA (bS hb); clear HO257; clear BK251; clear BK252; clear BK253; clear BK254; clear HB; have HO257 := n0_; have BK251 := n1_; have BK252 := n2_; have BK253 := n3_; have BK254 := n4_; have HB := n5_; clear n0_ n1_ n2_ n3_ n4_ n5_; (try clear hb); (try clear hb2); (try clear hk); (try clear hi); have hcz119_0 : w118.cell? ⟨gb253, 0, none⟩ = some (.int .i64 a2_0) := (blk_cell BK253.out 0).trans rfl; have hcz119_1 : w118.cell? ⟨gb253, 1, none⟩ = some (.int .i64 a2_1) := (blk_cell BK253.out 1).trans rfl; have hfz119_0 := blk_frozen BK253.out 0; have hfz119_1 := blk_frozen BK253.out 1; have hcz120_0 : w118.cell? ⟨gb251, 0, none⟩ = some (.int .i64 a0_0) := (blk_cell BK251.out 0).trans rfl; have hcz120_1 : w118.cell? ⟨gb251, 1, none⟩ = some (.int .i64 a0_1) := (blk_cell BK251.out 1).trans rfl; have hfz120_0 := blk_frozen BK251.out 0; have hfz120_1 := blk_frozen BK251.out 1; have hcz121_0 : w118.cell? ⟨gb252, 0, none⟩ = some (.int .i64 a1_0) := (blk_cell BK252.out 0).trans rfl; have hcz121_1 : w118.cell? ⟨gb252, 1, none⟩ = some (.int .i64 a1_1) := (blk_cell BK252.out 1).trans rfl; have hfz121_0 := blk_frozen BK252.out 0; have hfz121_1 := blk_frozen BK252.out 1) | ((first | ((with_reducible refine gate_callee (f := 20) rfl ?_); refine bC (some 29) Try.func20 #[.agg #[.int .i64 a2_0, .int .i64 a2_1], .agg #[.int .i64 a0_0, .int .i64 a0_1], .agg #[.int .i64 a1_0, .int .i64 a1_1]] ?_) | go_at_call 20); (with_reducible refine (point_On.calls k a2_0 a2_1 a0_0 a0_1 a1_0 a1_1 false _ A59.out).mono ?_); rintro e w122 ⟨rfl, hb⟩; (first | refine ⟨_, rfl, ?_⟩ | skip); have n0_ := bA (Kd.R_below (by (with_reducible repeat (first | apply Kd.R_alloc | apply Kd.R_drewN | apply Kd.R_drew)); exact HO257.out) hb); have n1_ := bA (bB BK251 hb); have n2_ := bA (bB BK252 hb); have n3_ := bA (bB BK253 hb); have n4_ := bA (bB BK254 hb); have n5_ := bA (bS hb); clear HO257; clear BK251; clear BK252; clear BK253; clear BK254; clear HB; have HO257 := n0_; have BK251 := n1_; have BK252 := n2_; have BK253 := n3_; have BK254 := n4_; have HB := n5_; clear n0_ n1_ n2_ n3_ n4_ n5_; (try clear hb); (try clear hb2); (try clear hk); (try clear hi); have hcz123_0 : w122.cell? ⟨gb254, 0, none⟩ = some (.int .i64 a3_0) := (blk_cell BK254.out 0).trans rfl; have hcz123_1 : w122.cell? ⟨gb254, 1, none⟩ = some (.int .i64 a3_1) := (blk_cell BK254.out 1).trans rfl; have hfz123_0 := blk_frozen BK254.out 0; have hfz123_1 := blk_frozen BK254.out 1; have hcz124_0 : w122.cell? ⟨gb251, 0, none⟩ = some (.int .i64 a0_0) := (blk_cell BK251.out 0).trans rfl; have hcz124_1 : w122.cell? ⟨gb251, 1, none⟩ = some (.int .i64 a0_1) := (blk_cell BK251.out 1).trans rfl; have hfz124_0 := blk_frozen BK251.out 0; have hfz124_1 := blk_frozen BK251.out 1; have hcz125_0 : w122.cell? ⟨gb252, 0, none⟩ = some (.int .i64 a1_0) := (blk_cell BK252.out 0).trans rfl; have hcz125_1 : w122.cell? ⟨gb252, 1, none⟩ = some (.int .i64 a1_1) := (blk_cell BK252.out 1).trans rfl; have hfz125_0 := blk_frozen BK252.out 0; have hfz125_1 := blk_frozen BK252.out 1) | ((first | ((with_reducible refine gate_callee (f := 20) rfl ?_); refine bC (some 33) Try.func20 #[.agg #[.int .i64 a3_0, .int .i64 a3_1], .agg #[.int .i64 a0_0, .int .i64 a0_1], .agg #[.int .i64 a1_0, .int .i64 a1_1]] ?_) | go_at_call 20); (with_reducible refine (point_On.calls k a3_0 a3_1 a0_0 a0_1 a1_0 a1_1 true _ A91.out).mono ?_); rintro e w126 ⟨rfl, hb⟩; (first | refine ⟨_, rfl, ?_⟩ | skip); have n0_ := bA (Kd.R_below (by (with_reducible repeat (first | apply Kd.R_alloc | apply Kd.R_drewN | apply Kd.R_drew)); exact HO257.out) hb); have n1_ := bA (bB BK251 hb); have n2_ := bA (bB BK252 hb); have n3_ := bA (bB BK253 hb); have n4_ := bA (bB BK254 hb); have n5_ := bA (bS hb); clear HO257; clear BK251; clear BK252; clear BK253; clear BK254; clear HB; have HO257 := n0_; have BK251 := n1_; have BK252 := n2_; have BK253 := n3_; have BK254 := n4_; have HB := n5_; clear n0_ n1_ n2_ n3_ n4_ n5_; (try clear hb); (try clear hb2); (try clear hk); (try clear hi)))
      go_ret
      exact bF
     ·replace c92 := Bool.eq_false_iff.mpr c92
      subst c92
      rw [if_neg (show ¬ (false = true) by decide)] at H
      replace H := Option.bind_eq_some_iff.mp H
      obtain ⟨t263, A1270, H⟩ := H
      replace H : ((point_Turn.f k a0_0 a0_1 a1_0 a1_1 a3_0 a3_1).bind fun t264 => (if (wrap64 (t263 * t264)) < 0 then ((point_Turn.f k a2_0 a2_1 a3_0 a3_1 a0_0 a0_1).bind fun t265 => ((point_Turn.f k a2_0 a2_1 a3_0 a3_1 a1_0 a1_1).bind fun t266 => (some (decide ((wrap64 (t265 * t266)) < 0))))) else (some false))) = some r := H
      have A127 := bA A1270
      clear A1270
      replace H := Option.bind_eq_some_iff.mp H
      obtain ⟨t264, A1280, H⟩ := H
      replace H : (if (wrap64 (t263 * t264)) < 0 then ((point_Turn.f k a2_0 a2_1 a3_0 a3_1 a0_0 a0_1).bind fun t265 => ((point_Turn.f k a2_0 a2_1 a3_0 a3_1 a1_0 a1_1).bind fun t266 => (some (decide ((wrap64 (t265 * t266)) < 0))))) else (some false)) = some r := H
      have A128 := bA A1280
      clear A1280
      by_cases c129 : (wrap64 (t263 * t264)) < 0
      ·rw [if_pos c129] at H
       have c129b0 : decide ((wrap64 (t263 * t264)) < 0) = true := decide_eq_true c129
       clear c129
       replace H := Option.bind_eq_some_iff.mp H
       obtain ⟨t265, A1300, H⟩ := H
       replace H : ((point_Turn.f k a2_0 a2_1 a3_0 a3_1 a1_0 a1_1).bind fun t266 => (some (decide ((wrap64 (t265 * t266)) < 0)))) = some r := H
       have A130 := bA A1300
       clear A1300
       replace H := Option.bind_eq_some_iff.mp H
       obtain ⟨t266, A1310, H⟩ := H
       replace H : (some (decide ((wrap64 (t265 * t266)) < 0))) = some r := H
       have A131 := bA A1310
       clear A1310
       obtain rfl := Option.some.inj H
       go_enter Try.func22, Try.ntmps22
       try go_wp2_with (first | ((with_reducible refine gate_dst (N := 4) rfl ?_); refine bE (N := 4) (cs := #[.int .i64 a0_0, .int .i64 a0_1]) (t := 31) ?_; intro gb251 hg w132 hbox hb; have n0_ := bA (bS hb); have n1_ := bA (hbox); have n2_ := bA ((bZ hg : w.heap.size ≤ gb251)); have n3_ := bA ((bZ hg : w.heap.size ≤ gb251)); clear HB; have HB := n0_; have BK251 := n1_; have GW251 := n2_; have GE251 := n3_; clear n0_ n1_ n2_ n3_; clear hb hbox hg) | ((with_reducible refine gate_dst (N := 5) rfl ?_); refine bE (N := 5) (cs := #[.int .i64 a1_0, .int .i64 a1_1]) (t := 31) ?_; intro gb252 hg w133 hbox hb; have n0_ := bA (bB BK251 hb); have n1_ := bA (bS hb); have n2_ := bA (hbox); have n3_ := bA ((bZ hg : w.heap.size ≤ gb252)); have n4_ := bA ((bZ hg : w.heap.size ≤ gb252)); have n5_ := bA ((bL BK251 hg : gb251 ≠ gb252)); have n6_ := bA ((bG BK251 hg : gb252 ≠ gb251)); clear BK251; clear HB; have BK251 := n0_; have HB := n1_; have BK252 := n2_; have GW252 := n3_; have GE252 := n4_; have NB251_252 := n5_; have NB252_251 := n6_; clear n0_ n1_ n2_ n3_ n4_ n5_ n6_; clear hb hbox hg) | ((with_reducible refine gate_dst (N := 6) rfl ?_); refine bE (N := 6) (cs := #[.int .i64 a2_0, .int .i64 a2_1]) (t := 31) ?_; intro gb253 hg w134 hbox hb; have n0_ := bA (bB BK251 hb); have n1_ := bA (bB BK252 hb); have n2_ := bA (bS hb); have n3_ := bA (hbox); have n4_ := bA ((bZ hg : w.heap.size ≤ gb253)); have n5_ := bA ((bZ hg : w.heap.size ≤ gb253)); have n6_ := bA ((bL BK251 hg : gb251 ≠ gb253)); have n7_ := bA ((bG BK251 hg : gb253 ≠ gb251)); have n8_ := bA ((bL BK252 hg : gb252 ≠ gb253)); have n9_ := bA ((bG BK252 hg : gb253 ≠ gb252)); clear BK251; clear BK252; clear HB; have BK251 := n0_; have BK252 := n1_; have HB := n2_; have BK253 := n3_; have GW253 := n4_; have GE253 := n5_; have NB251_253 := n6_; have NB253_251 := n7_; have NB252_253 := n8_; have NB253_252 := n9_; clear n0_ n1_ n2_ n3_ n4_ n5_ n6_ n7_ n8_ n9_; clear hb hbox hg) | ((with_reducible refine gate_dst (N := 7) rfl ?_); refine bE (N := 7) (cs := #[.int .i64 a3_0, .int .i64 a3_1]) (t := 31) ?_; intro gb254 hg w135 hbox hb; have n0_ := bA (bB BK251 hb); have n1_ := bA (bB BK252 hb); have n2_ := bA (bB BK253 hb); have n3_ := bA (bS hb); have n4_ := bA (hbox); have n5_ := bA ((bZ hg : w.heap.size ≤ gb254)); have n6_ := bA ((bZ hg : w.heap.size ≤ gb254)); have n7_ := bA ((bL BK251 hg : gb251 ≠ gb254)); have n8_ := bA ((bG BK251 hg : gb254 ≠ gb251)); have n9_ := bA ((bL BK252 hg : gb252 ≠ gb254)); have n10_ := bA ((bG BK252 hg : gb254 ≠ gb252)); have n11_ := bA ((bL BK253 hg : gb253 ≠ gb254)); have n12_ := bA ((bG BK253 hg : gb254 ≠ gb253)); clear BK251; clear BK252; clear BK253; clear HB; have BK251 := n0_; have BK252 := n1_; have BK253 := n2_; have HB := n3_; have BK254 := n4_; have GW254 := n5_; have GE254 := n6_; have NB251_254 := n7_; have NB254_251 := n8_; have NB252_254 := n9_; have NB254_252 := n10_; have NB253_254 := n11_; have NB254_253 := n12_; clear n0_ n1_ n2_ n3_ n4_ n5_ n6_ n7_ n8_ n9_ n10_ n11_ n12_; clear hb hbox hg; have hnb136 := NB251_252.out; have hnc136 := NB252_251.out; have hnb137 := NB251_253.out; have hnc137 := NB253_251.out; have hnb138 := NB251_254.out; have hnc138 := NB254_251.out; have hcz139_0 : w135.cell? ⟨gb251, 0, none⟩ = some (.int .i64 a0_0) := (blk_cell BK251.out 0).trans rfl; have hcz139_1 : w135.cell? ⟨gb251, 1, none⟩ = some (.int .i64 a0_1) := (blk_cell BK251.out 1).trans rfl; have hfz139_0 := blk_frozen BK251.out 0; have hfz139_1 := blk_frozen BK251.out 1; have hnb140 := NB252_253.out; have hnc140 := NB253_252.out; have hnb141 := NB252_254.out; have hnc141 := NB254_252.out; have hcz142_0 : w135.cell? ⟨gb252, 0, none⟩ = some (.int .i64 a1_0) := (blk_cell BK252.out 0).trans rfl; have hcz142_1 : w135.cell? ⟨gb252, 1, none⟩ = some (.int .i64 a1_1) := (blk_cell BK252.out 1).trans rfl; have hfz142_0 := blk_frozen BK252.out 0; have hfz142_1 := blk_frozen BK252.out 1; have hnb143 := NB253_254.out; have hnc143 := NB254_253.out; have hcz144_0 : w135.cell? ⟨gb253, 0, none⟩ = some (.int .i64 a2_0) := (blk_cell BK253.out 0).trans rfl; have hcz144_1 : w135.cell? ⟨gb253, 1, none⟩ = some (.int .i64 a2_1) := (blk_cell BK253.out 1).trans rfl; have hfz144_0 := blk_frozen BK253.out 0; have hfz144_1 := blk_frozen BK253.out 1; have hcz145_0 : w135.cell? ⟨gb254, 0, none⟩ = some (.int .i64 a3_0) := (blk_cell BK254.out 0).trans rfl; have hcz145_1 : w135.cell? ⟨gb254, 1, none⟩ = some (.int .i64 a3_1) := (blk_cell BK254.out 1).trans rfl; have hfz145_0 := blk_frozen BK254.out 0; have hfz145_1 := blk_frozen BK254.out 1) | ((with_reducible refine gate_dst (N := 14) rfl ?_); refine Kd.R_lit k31 _ 31 ?hg (N := 14) ?hd (xs := ([(⟨a0_0, a0_1⟩ : S31), (⟨a1_0, a1_1⟩ : S31), (⟨a2_0, a2_1⟩ : S31), (⟨a3_0, a3_1⟩ : S31)] : List (S31))) (inner := [.int .i64 a0_0, .int .i64 a0_1, .int .i64 a1_0, .int .i64 a1_1, .int .i64 a2_0, .int .i64 a2_1, .int .i64 a3_0, .int .i64 a3_1]) (ok := fun _ => True) (okp := fun _ => True) ?hr ?hp (fun _ hk => hk) trivial (Below.refl _ _) (Nat.le_refl _) (by simp) ?_; (case hd => rfl); (case hg => rfl); (case hr => first | (go_simp; done) | (go_simp; rfl)); (case hp => exact (Reps.c2 (show Kd.M k31 _ _ _ (⟨a0_0, a0_1⟩ : S31) [.int .i64 a0_0, .int .i64 a0_1] from (k31_mkM _ _ _ (⟨a0_0, a0_1⟩ : S31) )) (Reps.c2 (show Kd.M k31 _ _ _ (⟨a1_0, a1_1⟩ : S31) [.int .i64 a1_0, .int .i64 a1_1] from (k31_mkM _ _ _ (⟨a1_0, a1_1⟩ : S31) )) (Reps.c2 (show Kd.M k31 _ _ _ (⟨a2_0, a2_1⟩ : S31) [.int .i64 a2_0, .int .i64 a2_1] from (k31_mkM _ _ _ (⟨a2_0, a2_1⟩ : S31) )) (Reps.c2 (show Kd.M k31 _ _ _ (⟨a3_0, a3_1⟩ : S31) [.int .i64 a3_0, .int .i64 a3_1] from (k31_mkM _ _ _ (⟨a3_0, a3_1⟩ : S31) )) (Reps.none _ _)))))); intro v256 w146 ho147 hb hg_ hnew_; clear hg_ hnew_; (first | rw [← Ny255.out] at ho147 | (simp only [Int.reduceToNat] at ho147; rw [← Ny255.out] at ho147)); have n0_ := bA (Kd.R_lower (bN (bN (bN (bN ho147 BK251) BK252) BK253) BK254) bY); have n1_ := bA (bB BK251 hb); have n2_ := bA (bB BK252 hb); have n3_ := bA (bB BK253 hb); have n4_ := bA (bB BK254 hb); have n5_ := bA (bS hb); clear BK251; clear BK252; clear BK253; clear BK254; clear HB; have HO257 := n0_; have BK251 := n1_; have BK252 := n2_; have BK253 := n3_; have BK254 := n4_; have HB := n5_; clear n0_ n1_ n2_ n3_ n4_ n5_; clear hb ho147; obtain ⟨Ao148, co148, eo148⟩ := Kd.R_slice HO257.out; subst eo148) | ((first | ((with_reducible refine gate_callee (f := 39) rfl ?_); refine bC (some 15) Try.func39 #[.slice Ao148 y255.length co148] ?_) | go_at_call 39); (with_reducible refine (point_right.calls k _ _ y255 true _ ?side1 ?side2 A5.out).mono ?_); (case side1 => repeat (first | exact (Kd.R_reads' HO257.out).2.2 | (with_reducible refine Kd.C_alloc ?_ _) | (with_reducible refine Kd.C_drewN ?_ _) | (with_reducible refine Kd.C_drew ?_))); (case side2 => exact (Kd.R_reads' HO257.out).2.1); rintro e w149 ⟨rfl, hb⟩; (first | refine ⟨_, rfl, ?_⟩ | skip); have n0_ := bA (Kd.R_below (by (with_reducible repeat (first | apply Kd.R_alloc | apply Kd.R_drewN | apply Kd.R_drew)); exact HO257.out) hb); have n1_ := bA (bB BK251 hb); have n2_ := bA (bB BK252 hb); have n3_ := bA (bB BK253 hb); have n4_ := bA (bB BK254 hb); have n5_ := bA (bS hb); clear HO257; clear BK251; clear BK252; clear BK253; clear BK254; clear HB; have HO257 := n0_; have BK251 := n1_; have BK252 := n2_; have BK253 := n3_; have BK254 := n4_; have HB := n5_; clear n0_ n1_ n2_ n3_ n4_ n5_; (try clear hb); (try clear hb2); (try clear hk); (try clear hi); have hcz150_0 : w149.cell? ⟨gb251, 0, none⟩ = some (.int .i64 a0_0) := (blk_cell BK251.out 0).trans rfl; have hcz150_1 : w149.cell? ⟨gb251, 1, none⟩ = some (.int .i64 a0_1) := (blk_cell BK251.out 1).trans rfl; have hfz150_0 := blk_frozen BK251.out 0; have hfz150_1 := blk_frozen BK251.out 1; have hcz151_0 : w149.cell? ⟨gb253, 0, none⟩ = some (.int .i64 a2_0) := (blk_cell BK253.out 0).trans rfl; have hcz151_1 : w149.cell? ⟨gb253, 1, none⟩ = some (.int .i64 a2_1) := (blk_cell BK253.out 1).trans rfl; have hfz151_0 := blk_frozen BK253.out 0; have hfz151_1 := blk_frozen BK253.out 1; have hcz152_0 : w149.cell? ⟨gb254, 0, none⟩ = some (.int .i64 a3_0) := (blk_cell BK254.out 0).trans rfl; have hcz152_1 : w149.cell? ⟨gb254, 1, none⟩ = some (.int .i64 a3_1) := (blk_cell BK254.out 1).trans rfl; have hfz152_0 := blk_frozen BK254.out 0; have hfz152_1 := blk_frozen BK254.out 1) | ((first | ((with_reducible refine gate_callee (f := 20) rfl ?_); refine bC (some 21) Try.func20 #[.agg #[.int .i64 a0_0, .int .i64 a0_1], .agg #[.int .i64 a2_0, .int .i64 a2_1], .agg #[.int .i64 a3_0, .int .i64 a3_1]] ?_) | go_at_call 20); (with_reducible refine (point_On.calls k a0_0 a0_1 a2_0 a2_1 a3_0 a3_1 false _ A7.out).mono ?_); rintro e w153 ⟨rfl, hb⟩; (first | refine ⟨_, rfl, ?_⟩ | skip); have n0_ := bA (Kd.R_below (by (with_reducible repeat (first | apply Kd.R_alloc | apply Kd.R_drewN | apply Kd.R_drew)); exact HO257.out) hb); have n1_ := bA (bB BK251 hb); have n2_ := bA (bB BK252 hb); have n3_ := bA (bB BK253 hb); have n4_ := bA (bB BK254 hb); have n5_ := bA (bS hb); clear HO257; clear BK251; clear BK252; clear BK253; clear BK254; clear HB; have HO257 := n0_; have BK251 := n1_; have BK252 := n2_; have BK253 := n3_; have BK254 := n4_; have HB := n5_; clear n0_ n1_ n2_ n3_ n4_ n5_; (try clear hb); (try clear hb2); (try clear hk); (try clear hi); have hcz154_0 : w153.cell? ⟨gb252, 0, none⟩ = some (.int .i64 a1_0) := (blk_cell BK252.out 0).trans rfl; have hcz154_1 : w153.cell? ⟨gb252, 1, none⟩ = some (.int .i64 a1_1) := (blk_cell BK252.out 1).trans rfl; have hfz154_0 := blk_frozen BK252.out 0; have hfz154_1 := blk_frozen BK252.out 1; have hcz155_0 : w153.cell? ⟨gb253, 0, none⟩ = some (.int .i64 a2_0) := (blk_cell BK253.out 0).trans rfl; have hcz155_1 : w153.cell? ⟨gb253, 1, none⟩ = some (.int .i64 a2_1) := (blk_cell BK253.out 1).trans rfl; have hfz155_0 := blk_frozen BK253.out 0; have hfz155_1 := blk_frozen BK253.out 1; have hcz156_0 : w153.cell? ⟨gb254, 0, none⟩ = some (.int .i64 a3_0) := (blk_cell BK254.out 0).trans rfl; have hcz156_1 : w153.cell? ⟨gb254, 1, none⟩ = some (.int .i64 a3_1) := (blk_cell BK254.out 1).trans rfl; have hfz156_0 := blk_frozen BK254.out 0; have hfz156_1 := blk_frozen BK254.out 1) | ((first | ((with_reducible refine gate_callee (f := 20) rfl ?_); refine bC (some 25) Try.func20 #[.agg #[.int .i64 a1_0, .int .i64 a1_1], .agg #[.int .i64 a2_0, .int .i64 a2_1], .agg #[.int .i64 a3_0, .int .i64 a3_1]] ?_) | go_at_call 20); (with_reducible refine (point_On.calls k a1_0 a1_1 a2_0 a2_1 a3_0 a3_1 false _ A31.out).mono ?_); rintro e w157 ⟨rfl, hb⟩; (first | refine ⟨_, rfl, ?_⟩ | skip); have n0_ := bA (Kd.R_below (by (with_reducible repeat (first | apply Kd.R_alloc | apply Kd.R_drewN | apply Kd.R_drew)); exact HO257.out) hb); have n1_ := bA (bB BK251 hb); have n2_ := bA (bB BK252 hb); have n3_ := bA (bB BK253 hb); have n4_ := bA (bB BK254 hb); have n5_ := bA (bS hb); clear HO257; clear BK251; clear BK252; clear BK253; clear BK254; clear HB; have HO257 := n0_; have BK251 := n1_; have BK252 := n2_; have BK253 := n3_; have BK254 := n4_; have HB := n5_; clear n0_ n1_ n2_ n3_ n4_ n5_; (try clear hb); (try clear hb2); (try clear hk); (try clear hi); have hcz158_0 : w157.cell? ⟨gb253, 0, none⟩ = some (.int .i64 a2_0) := (blk_cell BK253.out 0).trans rfl; have hcz158_1 : w157.cell? ⟨gb253, 1, none⟩ = some (.int .i64 a2_1) := (blk_cell BK253.out 1).trans rfl; have hfz158_0 := blk_frozen BK253.out 0; have hfz158_1 := blk_frozen BK253.out 1; have hcz159_0 : w157.cell? ⟨gb251, 0, none⟩ = some (.int .i64 a0_0) := (blk_cell BK251.out 0).trans rfl; have hcz159_1 : w157.cell? ⟨gb251, 1, none⟩ = some (.int .i64 a0_1) := (blk_cell BK251.out 1).trans rfl; have hfz159_0 := blk_frozen BK251.out 0; have hfz159_1 := blk_frozen BK251.out 1; have hcz160_0 : w157.cell? ⟨gb252, 0, none⟩ = some (.int .i64 a1_0) := (blk_cell BK252.out 0).trans rfl; have hcz160_1 : w157.cell? ⟨gb252, 1, none⟩ = some (.int .i64 a1_1) := (blk_cell BK252.out 1).trans rfl; have hfz160_0 := blk_frozen BK252.out 0; have hfz160_1 := blk_frozen BK252.out 1) | ((first | ((with_reducible refine gate_callee (f := 20) rfl ?_); refine bC (some 29) Try.func20 #[.agg #[.int .i64 a2_0, .int .i64 a2_1], .agg #[.int .i64 a0_0, .int .i64 a0_1], .agg #[.int .i64 a1_0, .int .i64 a1_1]] ?_) | go_at_call 20); (with_reducible refine (point_On.calls k a2_0 a2_1 a0_0 a0_1 a1_0 a1_1 false _ A59.out).mono ?_); rintro e w161 ⟨rfl, hb⟩; (first | refine ⟨_, rfl, ?_⟩ | skip); have n0_ := bA (Kd.R_below (by (with_reducible repeat (first | apply Kd.R_alloc | apply Kd.R_drewN | apply Kd.R_drew)); exact HO257.out) hb); have n1_ := bA (bB BK251 hb); have n2_ := bA (bB BK252 hb); have n3_ := bA (bB BK253 hb); have n4_ := bA (bB BK254 hb); have n5_ := bA (bS hb); clear HO257; clear BK251; clear BK252; clear BK253; clear BK254; clear HB; have HO257 := n0_; have BK251 := n1_; have BK252 := n2_; have BK253 := n3_; have BK254 := n4_; have HB := n5_; clear n0_ n1_ n2_ n3_ n4_ n5_; (try clear hb); (try clear hb2); (try clear hk); (try clear hi); have hcz162_0 : w161.cell? ⟨gb254, 0, none⟩ = some (.int .i64 a3_0) := (blk_cell BK254.out 0).trans rfl; have hcz162_1 : w161.cell? ⟨gb254, 1, none⟩ = some (.int .i64 a3_1) := (blk_cell BK254.out 1).trans rfl; have hfz162_0 := blk_frozen BK254.out 0; have hfz162_1 := blk_frozen BK254.out 1; have hcz163_0 : w161.cell? ⟨gb251, 0, none⟩ = some (.int .i64 a0_0) := (blk_cell BK251.out 0).trans rfl; have hcz163_1 : w161.cell? ⟨gb251, 1, none⟩ = some (.int .i64 a0_1) := (blk_cell BK251.out 1).trans rfl; have hfz163_0 := blk_frozen BK251.out 0; have hfz163_1 := blk_frozen BK251.out 1; have hcz164_0 : w161.cell? ⟨gb252, 0, none⟩ = some (.int .i64 a1_0) := (blk_cell BK252.out 0).trans rfl; have hcz164_1 : w161.cell? ⟨gb252, 1, none⟩ = some (.int .i64 a1_1) := (blk_cell BK252.out 1).trans rfl; have hfz164_0 := blk_frozen BK252.out 0; have hfz164_1 := blk_frozen BK252.out 1) | ((first | ((with_reducible refine gate_callee (f := 20) rfl ?_); refine bC (some 33) Try.func20 #[.agg #[.int .i64 a3_0, .int .i64 a3_1], .agg #[.int .i64 a0_0, .int .i64 a0_1], .agg #[.int .i64 a1_0, .int .i64 a1_1]] ?_) | go_at_call 20); (with_reducible refine (point_On.calls k a3_0 a3_1 a0_0 a0_1 a1_0 a1_1 false _ A91.out).mono ?_); rintro e w165 ⟨rfl, hb⟩; (first | refine ⟨_, rfl, ?_⟩ | skip); have n0_ := bA (Kd.R_below (by (with_reducible repeat (first | apply Kd.R_alloc | apply Kd.R_drewN | apply Kd.R_drew)); exact HO257.out) hb); have n1_ := bA (bB BK251 hb); have n2_ := bA (bB BK252 hb); have n3_ := bA (bB BK253 hb); have n4_ := bA (bB BK254 hb); have n5_ := bA (bS hb); clear HO257; clear BK251; clear BK252; clear BK253; clear BK254; clear HB; have HO257 := n0_; have BK251 := n1_; have BK252 := n2_; have BK253 := n3_; have BK254 := n4_; have HB := n5_; clear n0_ n1_ n2_ n3_ n4_ n5_; (try clear hb); (try clear hb2); (try clear hk); (try clear hi)))
       have n0_ := bA (Kd.R_drew HO257.out)
       have n1_ := bA (blk_drew BK251.out)
       have n2_ := bA (blk_drew BK252.out)
       have n3_ := bA (blk_drew BK253.out)
       have n4_ := bA (blk_drew BK254.out)
       have n5_ := bA (below_drew1 HB.out)
       clear HO257
       clear BK251
       clear BK252
       clear BK253
       clear BK254
       clear HB
       have HO257 := n0_
       have BK251 := n1_
       have BK252 := n2_
       have BK253 := n3_
       have BK254 := n4_
       have HB := n5_
       clear n0_ n1_ n2_ n3_ n4_ n5_
       refine start_ (n := 23) (S := fun w' => w'.cell? ⟨gb251, 0, none⟩ = some (.int .i64 a0_0) ∧ w'.cell? ⟨gb251, 1, none⟩ = some (.int .i64 a0_1) ∧ w'.cell? ⟨gb252, 0, none⟩ = some (.int .i64 a1_0) ∧ w'.cell? ⟨gb252, 1, none⟩ = some (.int .i64 a1_1) ∧ w'.cell? ⟨gb253, 0, none⟩ = some (.int .i64 a2_0) ∧ w'.cell? ⟨gb253, 1, none⟩ = some (.int .i64 a2_1) ∧ w'.cell? ⟨gb254, 0, none⟩ = some (.int .i64 a3_0) ∧ w'.cell? ⟨gb254, 1, none⟩ = some (.int .i64 a3_1)) (ds := []) #[false, false, false, false, false, false, false, false, false, false, false, false, false, false, false, false, false, false, false, false, false, false, false] (by kernel_rfl) rfl rfl ⟨(blk_cell BK251.out 0).trans rfl, (blk_cell BK251.out 1).trans rfl, (blk_cell BK252.out 0).trans rfl, (blk_cell BK252.out 1).trans rfl, (blk_cell BK253.out 0).trans rfl, (blk_cell BK253.out 1).trans rfl, (blk_cell BK254.out 0).trans rfl, (blk_cell BK254.out 1).trans rfl⟩ (fun hHeld => ?_); refine with_tabW point_Meet.tab8 point_Meet.bits8 (fun HT_ HW_ => ?_)
       generalize w165.drew = w166 at HO257 BK251 BK252 BK253 BK254 HB hHeld ⊢
       refine take_ (i := 0) (N := some 34) (v := ?_) (a' := ?_) #[true, false, false, false, false, false, false, false, false, false, false, false, false, false, false, false, false, false, false, false, false, false, false] rfl rfl (take_ofW HT_.out HW_.out (by kernel_rfl)) (fun _ _ _ h => h) (Or.inl ⟨by rfl, ?_⟩) hHeld ?_ ?_
       rotate_left
       ·rintro w' ⟨s0, s1, s2, s3, s4, s5, s6, s7⟩
        go_simp
        with_reducible rfl
       rotate_left
       ·simp only [Act.put, List.setIfInBounds_toArray, List.set_cons_zero, List.set_cons_succ, i64_w, i32_w]
        rfl
       refine take_ (i := 1) (N := some 35) (v := ?_) (a' := ?_) #[true, true, false, false, false, false, false, false, false, false, false, false, false, false, false, false, false, false, false, false, false, false, false] rfl rfl (take_ofW HT_.out HW_.out (by kernel_rfl)) (fun _ _ _ h => h) (Or.inl ⟨by rfl, ?_⟩) hHeld ?_ ?_
       rotate_left
       ·rintro w' ⟨s0, s1, s2, s3, s4, s5, s6, s7⟩
        go_simp
        with_reducible rfl
       rotate_left
       ·simp only [Act.put, List.setIfInBounds_toArray, List.set_cons_zero, List.set_cons_succ, i64_w, i32_w]
        rfl
       refine take_ (i := 2) (N := some 36) (v := ?_) (a' := ?_) #[true, true, true, false, false, false, false, false, false, false, false, false, false, false, false, false, false, false, false, false, false, false, false] rfl rfl (take_ofW HT_.out HW_.out (by kernel_rfl)) (fun _ _ _ h => h) (Or.inl ⟨by rfl, ?_⟩) hHeld ?_ ?_
       rotate_left
       ·rintro w' ⟨s0, s1, s2, s3, s4, s5, s6, s7⟩
        go_simp
        with_reducible rfl
       rotate_left
       ·simp only [Act.put, List.setIfInBounds_toArray, List.set_cons_zero, List.set_cons_succ, i64_w, i32_w]
        rfl
       refine take_ (i := 4) (N := some 38) (v := ?_) (a' := ?_) #[true, true, true, false, true, false, false, false, false, false, false, false, false, false, false, false, false, false, false, false, false, false, false] rfl rfl (take_ofW HT_.out HW_.out (by kernel_rfl)) (fun _ _ _ h => h) (Or.inl ⟨by rfl, ?_⟩) hHeld ?_ ?_
       rotate_left
       ·rintro w' ⟨s0, s1, s2, s3, s4, s5, s6, s7⟩
        go_simp
        with_reducible rfl
       rotate_left
       ·simp only [Act.put, List.setIfInBounds_toArray, List.set_cons_zero, List.set_cons_succ, i64_w, i32_w]
        rfl
       refine take_ (i := 5) (N := some 39) (v := ?_) (a' := ?_) #[true, true, true, false, true, true, false, false, false, false, false, false, false, false, false, false, false, false, false, false, false, false, false] rfl rfl (take_ofW HT_.out HW_.out (by kernel_rfl)) (fun _ _ _ h => h) (Or.inl ⟨by rfl, ?_⟩) hHeld ?_ ?_
       rotate_left
       ·rintro w' ⟨s0, s1, s2, s3, s4, s5, s6, s7⟩
        go_simp
        with_reducible rfl
       rotate_left
       ·simp only [Act.put, List.setIfInBounds_toArray, List.set_cons_zero, List.set_cons_succ, i64_w, i32_w]
        rfl
       refine take_ (i := 6) (N := some 40) (v := ?_) (a' := ?_) #[true, true, true, false, true, true, true, false, false, false, false, false, false, false, false, false, false, false, false, false, false, false, false] rfl rfl (take_ofW HT_.out HW_.out (by kernel_rfl)) (fun _ _ _ h => h) (Or.inl ⟨by rfl, ?_⟩) hHeld ?_ ?_
       rotate_left
       ·rintro w' ⟨s0, s1, s2, s3, s4, s5, s6, s7⟩
        go_simp
        with_reducible rfl
       rotate_left
       ·simp only [Act.put, List.setIfInBounds_toArray, List.set_cons_zero, List.set_cons_succ, i64_w, i32_w]
        rfl
       refine one_ (i := 3) (N := some 37) #[true, true, true, true, true, true, true, false, false, false, false, false, false, false, false, false, false, false, false, false, false, false, false] rfl rfl (one_of HT_.out (by kernel_rfl)) (by decide) (fun K hK => ?_)
       refine goes_ Try.func18 (by kernel_rfl) rfl #[.agg #[.int .i64 a0_0, .int .i64 a0_1], .agg #[.int .i64 a1_0, .int .i64 a1_1], .agg #[.int .i64 a2_0, .int .i64 a2_1]] (by rfl) rfl rfl (by (try simp only [List.map_toArray, List.map_cons, List.map_nil]); first | done | rfl | (simp only [List.length_drop, List.length_take]; rfl)) ?_
       with_reducible refine (point_Turn.calls k a0_0 a0_1 a1_0 a1_1 a2_0 a2_1 t263 _ A127.out).mono ?_
       rintro e w167 ⟨rfl, hb⟩
       refine ⟨_, rfl, ?_⟩
       have n0_ := bA (Kd.R_below (by (with_reducible repeat (first | apply Kd.R_alloc | apply Kd.R_drewN | apply Kd.R_drew)); exact HO257.out) hb)
       have n1_ := bA (bB BK251 hb)
       have n2_ := bA (bB BK252 hb)
       have n3_ := bA (bB BK253 hb)
       have n4_ := bA (bB BK254 hb)
       have n5_ := bA (bS hb)
       clear HO257
       clear BK251
       clear BK252
       clear BK253
       clear BK254
       clear HB
       have HO257 := n0_
       have BK251 := n1_
       have BK252 := n2_
       have BK253 := n3_
       have BK254 := n4_
       have HB := n5_
       clear n0_ n1_ n2_ n3_ n4_ n5_
       (try clear hb)
       (try clear hb2)
       (try clear hk)
       (try clear hi)
       refine hK.out _ _ ⟨(blk_cell BK251.out 0).trans rfl, (blk_cell BK251.out 1).trans rfl, (blk_cell BK252.out 0).trans rfl, (blk_cell BK252.out 1).trans rfl, (blk_cell BK253.out 0).trans rfl, (blk_cell BK253.out 1).trans rfl, (blk_cell BK254.out 0).trans rfl, (blk_cell BK254.out 1).trans rfl⟩ (fun hHeld => ?_)
       clear hK K
       refine norm_ (a' := ?_) ?_ ?_
       rotate_left
       ·show Act.put _ (some 37) _ = _
        simp only [Act.put, List.setIfInBounds_toArray, List.set_cons_zero, List.set_cons_succ, i64_w, i32_w]
        rfl
       refine one_ (i := 7) (N := some 41) #[true, true, true, true, true, true, true, true, false, false, false, false, false, false, false, false, false, false, false, false, false, false, false] rfl rfl (one_of HT_.out (by kernel_rfl)) (by decide) (fun K hK => ?_)
       refine goes_ Try.func18 (by kernel_rfl) rfl #[.agg #[.int .i64 a0_0, .int .i64 a0_1], .agg #[.int .i64 a1_0, .int .i64 a1_1], .agg #[.int .i64 a3_0, .int .i64 a3_1]] (by rfl) rfl rfl (by (try simp only [List.map_toArray, List.map_cons, List.map_nil]); first | done | rfl | (simp only [List.length_drop, List.length_take]; rfl)) ?_
       with_reducible refine (point_Turn.calls k a0_0 a0_1 a1_0 a1_1 a3_0 a3_1 t264 _ A128.out).mono ?_
       rintro e w168 ⟨rfl, hb⟩
       refine ⟨_, rfl, ?_⟩
       have n0_ := bA (Kd.R_below (by (with_reducible repeat (first | apply Kd.R_alloc | apply Kd.R_drewN | apply Kd.R_drew)); exact HO257.out) hb)
       have n1_ := bA (bB BK251 hb)
       have n2_ := bA (bB BK252 hb)
       have n3_ := bA (bB BK253 hb)
       have n4_ := bA (bB BK254 hb)
       have n5_ := bA (bS hb)
       clear HO257
       clear BK251
       clear BK252
       clear BK253
       clear BK254
       clear HB
       have HO257 := n0_
       have BK251 := n1_
       have BK252 := n2_
       have BK253 := n3_
       have BK254 := n4_
       have HB := n5_
       clear n0_ n1_ n2_ n3_ n4_ n5_
       (try clear hb)
       (try clear hb2)
       (try clear hk)
       (try clear hi)
       refine hK.out _ _ ⟨(blk_cell BK251.out 0).trans rfl, (blk_cell BK251.out 1).trans rfl, (blk_cell BK252.out 0).trans rfl, (blk_cell BK252.out 1).trans rfl, (blk_cell BK253.out 0).trans rfl, (blk_cell BK253.out 1).trans rfl, (blk_cell BK254.out 0).trans rfl, (blk_cell BK254.out 1).trans rfl⟩ (fun hHeld => ?_)
       clear hK K
       refine norm_ (a' := ?_) ?_ ?_
       rotate_left
       ·show Act.put _ (some 41) _ = _
        simp only [Act.put, List.setIfInBounds_toArray, List.set_cons_zero, List.set_cons_succ, i64_w, i32_w]
        rfl
       refine pure_ (i := 8) (N := some 42) (v := ?_) (a' := ?_) #[true, true, true, true, true, true, true, true, true, false, false, false, false, false, false, false, false, false, false, false, false, false, false] rfl rfl (any_of HT_.out (by kernel_rfl)) (fun _ _ _ h => h) (Or.inl ⟨by rfl, ?_⟩) ?_ ?_
       rotate_left
       ·intro w'
        go_simp
        with_reducible rfl
       rotate_left
       ·simp only [Act.put, List.setIfInBounds_toArray, List.set_cons_zero, List.set_cons_succ, i64_w, i32_w]
        rfl
       refine pure_ (i := 9) (N := some 43) (v := ?_) (a' := ?_) #[true, true, true, true, true, true, true, true, true, true, false, false, false, false, false, false, false, false, false, false, false, false, false] rfl rfl (any_of HT_.out (by kernel_rfl)) (fun _ _ _ h => h) (Or.inl ⟨by rfl, ?_⟩) ?_ ?_
       rotate_left
       ·intro w'
        go_simp
        with_reducible rfl
       rotate_left
       ·simp only [Act.put, List.setIfInBounds_toArray, List.set_cons_zero, List.set_cons_succ, i64_w, i32_w]
        rfl
       refine pure_ (i := 10) (N := some 44) (v := ?_) (a' := ?_) #[true, true, true, true, true, true, true, true, true, true, true, false, false, false, false, false, false, false, false, false, false, false, false] rfl rfl (any_of HT_.out (by kernel_rfl)) (fun _ _ _ h => h) (Or.inl ⟨by rfl, ?_⟩) ?_ ?_
       rotate_left
       ·intro w'
        go_simp
        with_reducible rfl
       rotate_left
       ·simp only [Act.put, List.setIfInBounds_toArray, List.set_cons_zero, List.set_cons_succ, i64_w, i32_w]
        rfl
       refine take_ (i := 11) (N := some 45) (v := ?_) (a' := ?_) #[true, true, true, true, true, true, true, true, true, true, true, true, false, false, false, false, false, false, false, false, false, false, false] rfl rfl (take_ofW HT_.out HW_.out (by kernel_rfl)) (fun _ _ _ h => h) (Or.inl ⟨by rfl, ?_⟩) hHeld ?_ ?_
       rotate_left
       ·rintro w' ⟨s0, s1, s2, s3, s4, s5, s6, s7⟩
        go_simp
        with_reducible rfl
       rotate_left
       ·simp only [Act.put, List.setIfInBounds_toArray, List.set_cons_zero, List.set_cons_succ, i64_w, i32_w]
        rfl
       refine take_ (i := 12) (N := some 46) (v := ?_) (a' := ?_) #[true, true, true, true, true, true, true, true, true, true, true, true, true, false, false, false, false, false, false, false, false, false, false] rfl rfl (take_ofW HT_.out HW_.out (by kernel_rfl)) (fun _ _ _ h => h) (Or.inl ⟨by rfl, ?_⟩) hHeld ?_ ?_
       rotate_left
       ·rintro w' ⟨s0, s1, s2, s3, s4, s5, s6, s7⟩
        go_simp
        with_reducible rfl
       rotate_left
       ·simp only [Act.put, List.setIfInBounds_toArray, List.set_cons_zero, List.set_cons_succ, i64_w, i32_w]
        rfl
       refine take_ (i := 13) (N := some 47) (v := ?_) (a' := ?_) #[true, true, true, true, true, true, true, true, true, true, true, true, true, true, false, false, false, false, false, false, false, false, false] rfl rfl (take_ofW HT_.out HW_.out (by kernel_rfl)) (fun _ _ _ h => h) (Or.inl ⟨by rfl, ?_⟩) hHeld ?_ ?_
       rotate_left
       ·rintro w' ⟨s0, s1, s2, s3, s4, s5, s6, s7⟩
        go_simp
        with_reducible rfl
       rotate_left
       ·simp only [Act.put, List.setIfInBounds_toArray, List.set_cons_zero, List.set_cons_succ, i64_w, i32_w]
        rfl
       refine take_ (i := 15) (N := some 49) (v := ?_) (a' := ?_) #[true, true, true, true, true, true, true, true, true, true, true, true, true, true, false, true, false, false, false, false, false, false, false] rfl rfl (take_ofW HT_.out HW_.out (by kernel_rfl)) (fun _ _ _ h => h) (Or.inl ⟨by rfl, ?_⟩) hHeld ?_ ?_
       rotate_left
       ·rintro w' ⟨s0, s1, s2, s3, s4, s5, s6, s7⟩
        go_simp
        with_reducible rfl
       rotate_left
       ·simp only [Act.put, List.setIfInBounds_toArray, List.set_cons_zero, List.set_cons_succ, i64_w, i32_w]
        rfl
       refine take_ (i := 16) (N := some 50) (v := ?_) (a' := ?_) #[true, true, true, true, true, true, true, true, true, true, true, true, true, true, false, true, true, false, false, false, false, false, false] rfl rfl (take_ofW HT_.out HW_.out (by kernel_rfl)) (fun _ _ _ h => h) (Or.inl ⟨by rfl, ?_⟩) hHeld ?_ ?_
       rotate_left
       ·rintro w' ⟨s0, s1, s2, s3, s4, s5, s6, s7⟩
        go_simp
        with_reducible rfl
       rotate_left
       ·simp only [Act.put, List.setIfInBounds_toArray, List.set_cons_zero, List.set_cons_succ, i64_w, i32_w]
        rfl
       refine take_ (i := 17) (N := some 51) (v := ?_) (a' := ?_) #[true, true, true, true, true, true, true, true, true, true, true, true, true, true, false, true, true, true, false, false, false, false, false] rfl rfl (take_ofW HT_.out HW_.out (by kernel_rfl)) (fun _ _ _ h => h) (Or.inl ⟨by rfl, ?_⟩) hHeld ?_ ?_
       rotate_left
       ·rintro w' ⟨s0, s1, s2, s3, s4, s5, s6, s7⟩
        go_simp
        with_reducible rfl
       rotate_left
       ·simp only [Act.put, List.setIfInBounds_toArray, List.set_cons_zero, List.set_cons_succ, i64_w, i32_w]
        rfl
       refine one_ (i := 14) (N := some 48) #[true, true, true, true, true, true, true, true, true, true, true, true, true, true, true, true, true, true, false, false, false, false, false] rfl rfl (one_of HT_.out (by kernel_rfl)) (by decide) (fun K hK => ?_)
       refine goes_ Try.func18 (by kernel_rfl) rfl #[.agg #[.int .i64 a2_0, .int .i64 a2_1], .agg #[.int .i64 a3_0, .int .i64 a3_1], .agg #[.int .i64 a0_0, .int .i64 a0_1]] (by rfl) rfl rfl (by (try simp only [List.map_toArray, List.map_cons, List.map_nil]); first | done | rfl | (simp only [List.length_drop, List.length_take]; rfl)) ?_
       with_reducible refine (point_Turn.calls k a2_0 a2_1 a3_0 a3_1 a0_0 a0_1 t265 _ A130.out).mono ?_
       rintro e w169 ⟨rfl, hb⟩
       refine ⟨_, rfl, ?_⟩
       have n0_ := bA (Kd.R_below (by (with_reducible repeat (first | apply Kd.R_alloc | apply Kd.R_drewN | apply Kd.R_drew)); exact HO257.out) hb)
       have n1_ := bA (bB BK251 hb)
       have n2_ := bA (bB BK252 hb)
       have n3_ := bA (bB BK253 hb)
       have n4_ := bA (bB BK254 hb)
       have n5_ := bA (bS hb)
       clear HO257
       clear BK251
       clear BK252
       clear BK253
       clear BK254
       clear HB
       have HO257 := n0_
       have BK251 := n1_
       have BK252 := n2_
       have BK253 := n3_
       have BK254 := n4_
       have HB := n5_
       clear n0_ n1_ n2_ n3_ n4_ n5_
       (try clear hb)
       (try clear hb2)
       (try clear hk)
       (try clear hi)
       refine hK.out _ _ ⟨(blk_cell BK251.out 0).trans rfl, (blk_cell BK251.out 1).trans rfl, (blk_cell BK252.out 0).trans rfl, (blk_cell BK252.out 1).trans rfl, (blk_cell BK253.out 0).trans rfl, (blk_cell BK253.out 1).trans rfl, (blk_cell BK254.out 0).trans rfl, (blk_cell BK254.out 1).trans rfl⟩ (fun hHeld => ?_)
       clear hK K
       refine norm_ (a' := ?_) ?_ ?_
       rotate_left
       ·show Act.put _ (some 48) _ = _
        simp only [Act.put, List.setIfInBounds_toArray, List.set_cons_zero, List.set_cons_succ, i64_w, i32_w]
        rfl
       refine one_ (i := 18) (N := some 52) #[true, true, true, true, true, true, true, true, true, true, true, true, true, true, true, true, true, true, true, false, false, false, false] rfl rfl (one_of HT_.out (by kernel_rfl)) (by decide) (fun K hK => ?_)
       refine goes_ Try.func18 (by kernel_rfl) rfl #[.agg #[.int .i64 a2_0, .int .i64 a2_1], .agg #[.int .i64 a3_0, .int .i64 a3_1], .agg #[.int .i64 a1_0, .int .i64 a1_1]] (by rfl) rfl rfl (by (try simp only [List.map_toArray, List.map_cons, List.map_nil]); first | done | rfl | (simp only [List.length_drop, List.length_take]; rfl)) ?_
       with_reducible refine (point_Turn.calls k a2_0 a2_1 a3_0 a3_1 a1_0 a1_1 t266 _ A131.out).mono ?_
       rintro e w170 ⟨rfl, hb⟩
       refine ⟨_, rfl, ?_⟩
       have n0_ := bA (Kd.R_below (by (with_reducible repeat (first | apply Kd.R_alloc | apply Kd.R_drewN | apply Kd.R_drew)); exact HO257.out) hb)
       have n1_ := bA (bB BK251 hb)
       have n2_ := bA (bB BK252 hb)
       have n3_ := bA (bB BK253 hb)
       have n4_ := bA (bB BK254 hb)
       have n5_ := bA (bS hb)
       clear HO257
       clear BK251
       clear BK252
       clear BK253
       clear BK254
       clear HB
       have HO257 := n0_
       have BK251 := n1_
       have BK252 := n2_
       have BK253 := n3_
       have BK254 := n4_
       have HB := n5_
       clear n0_ n1_ n2_ n3_ n4_ n5_
       (try clear hb)
       (try clear hb2)
       (try clear hk)
       (try clear hi)
       refine hK.out _ _ ⟨(blk_cell BK251.out 0).trans rfl, (blk_cell BK251.out 1).trans rfl, (blk_cell BK252.out 0).trans rfl, (blk_cell BK252.out 1).trans rfl, (blk_cell BK253.out 0).trans rfl, (blk_cell BK253.out 1).trans rfl, (blk_cell BK254.out 0).trans rfl, (blk_cell BK254.out 1).trans rfl⟩ (fun hHeld => ?_)
       clear hK K
       refine norm_ (a' := ?_) ?_ ?_
       rotate_left
       ·show Act.put _ (some 52) _ = _
        simp only [Act.put, List.setIfInBounds_toArray, List.set_cons_zero, List.set_cons_succ, i64_w, i32_w]
        rfl
       refine pure_ (i := 19) (N := some 53) (v := ?_) (a' := ?_) #[true, true, true, true, true, true, true, true, true, true, true, true, true, true, true, true, true, true, true, true, false, false, false] rfl rfl (any_of HT_.out (by kernel_rfl)) (fun _ _ _ h => h) (Or.inl ⟨by rfl, ?_⟩) ?_ ?_
       rotate_left
       ·intro w'
        go_simp
        with_reducible rfl
       rotate_left
       ·simp only [Act.put, List.setIfInBounds_toArray, List.set_cons_zero, List.set_cons_succ, i64_w, i32_w]
        rfl
       refine pure_ (i := 20) (N := some 54) (v := ?_) (a' := ?_) #[true, true, true, true, true, true, true, true, true, true, true, true, true, true, true, true, true, true, true, true, true, false, false] rfl rfl (any_of HT_.out (by kernel_rfl)) (fun _ _ _ h => h) (Or.inl ⟨by rfl, ?_⟩) ?_ ?_
       rotate_left
       ·intro w'
        go_simp
        with_reducible rfl
       rotate_left
       ·simp only [Act.put, List.setIfInBounds_toArray, List.set_cons_zero, List.set_cons_succ, i64_w, i32_w]
        rfl
       refine pure_ (i := 21) (N := some 55) (v := ?_) (a' := ?_) #[true, true, true, true, true, true, true, true, true, true, true, true, true, true, true, true, true, true, true, true, true, true, false] rfl rfl (any_of HT_.out (by kernel_rfl)) (fun _ _ _ h => h) (Or.inl ⟨by rfl, ?_⟩) ?_ ?_
       rotate_left
       ·intro w'
        go_simp
        with_reducible rfl
       rotate_left
       ·simp only [Act.put, List.setIfInBounds_toArray, List.set_cons_zero, List.set_cons_succ, i64_w, i32_w]
        rfl
       refine pure_ (i := 22) (N := some 8) (v := ?_) (a' := ?_) #[true, true, true, true, true, true, true, true, true, true, true, true, true, true, true, true, true, true, true, true, true, true, true] rfl rfl (any_of HT_.out (by kernel_rfl)) (fun _ _ _ h => h) (Or.inl ⟨by rfl, ?_⟩) ?_ ?_
       rotate_left
       ·intro w'
        go_simp
        with_reducible rfl
       rotate_left
       ·simp only [Act.put, List.setIfInBounds_toArray, List.set_cons_zero, List.set_cons_succ, i64_w, i32_w]
        rfl
       refine done_ (done_of HT_.out (by kernel_rfl)) ?_
       try go_wp2
       go_ret
       exact bF
      ·rw [if_neg c129] at H
       have c129b0 : decide ((wrap64 (t263 * t264)) < 0) = false := decide_eq_false c129
       clear c129
       obtain rfl := Option.some.inj H
       go_enter Try.func22, Try.ntmps22
       try go_wp2_with (first | ((with_reducible refine gate_dst (N := 4) rfl ?_); refine bE (N := 4) (cs := #[.int .i64 a0_0, .int .i64 a0_1]) (t := 31) ?_; intro gb251 hg w171 hbox hb; have n0_ := bA (bS hb); have n1_ := bA (hbox); have n2_ := bA ((bZ hg : w.heap.size ≤ gb251)); have n3_ := bA ((bZ hg : w.heap.size ≤ gb251)); clear HB; have HB := n0_; have BK251 := n1_; have GW251 := n2_; have GE251 := n3_; clear n0_ n1_ n2_ n3_; clear hb hbox hg) | ((with_reducible refine gate_dst (N := 5) rfl ?_); refine bE (N := 5) (cs := #[.int .i64 a1_0, .int .i64 a1_1]) (t := 31) ?_; intro gb252 hg w172 hbox hb; have n0_ := bA (bB BK251 hb); have n1_ := bA (bS hb); have n2_ := bA (hbox); have n3_ := bA ((bZ hg : w.heap.size ≤ gb252)); have n4_ := bA ((bZ hg : w.heap.size ≤ gb252)); have n5_ := bA ((bL BK251 hg : gb251 ≠ gb252)); have n6_ := bA ((bG BK251 hg : gb252 ≠ gb251)); clear BK251; clear HB; have BK251 := n0_; have HB := n1_; have BK252 := n2_; have GW252 := n3_; have GE252 := n4_; have NB251_252 := n5_; have NB252_251 := n6_; clear n0_ n1_ n2_ n3_ n4_ n5_ n6_; clear hb hbox hg) | ((with_reducible refine gate_dst (N := 6) rfl ?_); refine bE (N := 6) (cs := #[.int .i64 a2_0, .int .i64 a2_1]) (t := 31) ?_; intro gb253 hg w173 hbox hb; have n0_ := bA (bB BK251 hb); have n1_ := bA (bB BK252 hb); have n2_ := bA (bS hb); have n3_ := bA (hbox); have n4_ := bA ((bZ hg : w.heap.size ≤ gb253)); have n5_ := bA ((bZ hg : w.heap.size ≤ gb253)); have n6_ := bA ((bL BK251 hg : gb251 ≠ gb253)); have n7_ := bA ((bG BK251 hg : gb253 ≠ gb251)); have n8_ := bA ((bL BK252 hg : gb252 ≠ gb253)); have n9_ := bA ((bG BK252 hg : gb253 ≠ gb252)); clear BK251; clear BK252; clear HB; have BK251 := n0_; have BK252 := n1_; have HB := n2_; have BK253 := n3_; have GW253 := n4_; have GE253 := n5_; have NB251_253 := n6_; have NB253_251 := n7_; have NB252_253 := n8_; have NB253_252 := n9_; clear n0_ n1_ n2_ n3_ n4_ n5_ n6_ n7_ n8_ n9_; clear hb hbox hg) | ((with_reducible refine gate_dst (N := 7) rfl ?_); refine bE (N := 7) (cs := #[.int .i64 a3_0, .int .i64 a3_1]) (t := 31) ?_; intro gb254 hg w174 hbox hb; have n0_ := bA (bB BK251 hb); have n1_ := bA (bB BK252 hb); have n2_ := bA (bB BK253 hb); have n3_ := bA (bS hb); have n4_ := bA (hbox); have n5_ := bA ((bZ hg : w.heap.size ≤ gb254)); have n6_ := bA ((bZ hg : w.heap.size ≤ gb254)); have n7_ := bA ((bL BK251 hg : gb251 ≠ gb254)); have n8_ := bA ((bG BK251 hg : gb254 ≠ gb251)); have n9_ := bA ((bL BK252 hg : gb252 ≠ gb254)); have n10_ := bA ((bG BK252 hg : gb254 ≠ gb252)); have n11_ := bA ((bL BK253 hg : gb253 ≠ gb254)); have n12_ := bA ((bG BK253 hg : gb254 ≠ gb253)); clear BK251; clear BK252; clear BK253; clear HB; have BK251 := n0_; have BK252 := n1_; have BK253 := n2_; have HB := n3_; have BK254 := n4_; have GW254 := n5_; have GE254 := n6_; have NB251_254 := n7_; have NB254_251 := n8_; have NB252_254 := n9_; have NB254_252 := n10_; have NB253_254 := n11_; have NB254_253 := n12_; clear n0_ n1_ n2_ n3_ n4_ n5_ n6_ n7_ n8_ n9_ n10_ n11_ n12_; clear hb hbox hg; have hnb175 := NB251_252.out; have hnc175 := NB252_251.out; have hnb176 := NB251_253.out; have hnc176 := NB253_251.out; have hnb177 := NB251_254.out; have hnc177 := NB254_251.out; have hcz178_0 : w174.cell? ⟨gb251, 0, none⟩ = some (.int .i64 a0_0) := (blk_cell BK251.out 0).trans rfl; have hcz178_1 : w174.cell? ⟨gb251, 1, none⟩ = some (.int .i64 a0_1) := (blk_cell BK251.out 1).trans rfl; have hfz178_0 := blk_frozen BK251.out 0; have hfz178_1 := blk_frozen BK251.out 1; have hnb179 := NB252_253.out; have hnc179 := NB253_252.out; have hnb180 := NB252_254.out; have hnc180 := NB254_252.out; have hcz181_0 : w174.cell? ⟨gb252, 0, none⟩ = some (.int .i64 a1_0) := (blk_cell BK252.out 0).trans rfl; have hcz181_1 : w174.cell? ⟨gb252, 1, none⟩ = some (.int .i64 a1_1) := (blk_cell BK252.out 1).trans rfl; have hfz181_0 := blk_frozen BK252.out 0; have hfz181_1 := blk_frozen BK252.out 1; have hnb182 := NB253_254.out; have hnc182 := NB254_253.out; have hcz183_0 : w174.cell? ⟨gb253, 0, none⟩ = some (.int .i64 a2_0) := (blk_cell BK253.out 0).trans rfl; have hcz183_1 : w174.cell? ⟨gb253, 1, none⟩ = some (.int .i64 a2_1) := (blk_cell BK253.out 1).trans rfl; have hfz183_0 := blk_frozen BK253.out 0; have hfz183_1 := blk_frozen BK253.out 1; have hcz184_0 : w174.cell? ⟨gb254, 0, none⟩ = some (.int .i64 a3_0) := (blk_cell BK254.out 0).trans rfl; have hcz184_1 : w174.cell? ⟨gb254, 1, none⟩ = some (.int .i64 a3_1) := (blk_cell BK254.out 1).trans rfl; have hfz184_0 := blk_frozen BK254.out 0; have hfz184_1 := blk_frozen BK254.out 1) | ((with_reducible refine gate_dst (N := 14) rfl ?_); refine Kd.R_lit k31 _ 31 ?hg (N := 14) ?hd (xs := ([(⟨a0_0, a0_1⟩ : S31), (⟨a1_0, a1_1⟩ : S31), (⟨a2_0, a2_1⟩ : S31), (⟨a3_0, a3_1⟩ : S31)] : List (S31))) (inner := [.int .i64 a0_0, .int .i64 a0_1, .int .i64 a1_0, .int .i64 a1_1, .int .i64 a2_0, .int .i64 a2_1, .int .i64 a3_0, .int .i64 a3_1]) (ok := fun _ => True) (okp := fun _ => True) ?hr ?hp (fun _ hk => hk) trivial (Below.refl _ _) (Nat.le_refl _) (by simp) ?_; (case hd => rfl); (case hg => rfl); (case hr => first | (go_simp; done) | (go_simp; rfl)); (case hp => exact (Reps.c2 (show Kd.M k31 _ _ _ (⟨a0_0, a0_1⟩ : S31) [.int .i64 a0_0, .int .i64 a0_1] from (k31_mkM _ _ _ (⟨a0_0, a0_1⟩ : S31) )) (Reps.c2 (show Kd.M k31 _ _ _ (⟨a1_0, a1_1⟩ : S31) [.int .i64 a1_0, .int .i64 a1_1] from (k31_mkM _ _ _ (⟨a1_0, a1_1⟩ : S31) )) (Reps.c2 (show Kd.M k31 _ _ _ (⟨a2_0, a2_1⟩ : S31) [.int .i64 a2_0, .int .i64 a2_1] from (k31_mkM _ _ _ (⟨a2_0, a2_1⟩ : S31) )) (Reps.c2 (show Kd.M k31 _ _ _ (⟨a3_0, a3_1⟩ : S31) [.int .i64 a3_0, .int .i64 a3_1] from (k31_mkM _ _ _ (⟨a3_0, a3_1⟩ : S31) )) (Reps.none _ _)))))); intro v256 w185 ho186 hb hg_ hnew_; clear hg_ hnew_; (first | rw [← Ny255.out] at ho186 | (simp only [Int.reduceToNat] at ho186; rw [← Ny255.out] at ho186)); have n0_ := bA (Kd.R_lower (bN (bN (bN (bN ho186 BK251) BK252) BK253) BK254) bY); have n1_ := bA (bB BK251 hb); have n2_ := bA (bB BK252 hb); have n3_ := bA (bB BK253 hb); have n4_ := bA (bB BK254 hb); have n5_ := bA (bS hb); clear BK251; clear BK252; clear BK253; clear BK254; clear HB; have HO257 := n0_; have BK251 := n1_; have BK252 := n2_; have BK253 := n3_; have BK254 := n4_; have HB := n5_; clear n0_ n1_ n2_ n3_ n4_ n5_; clear hb ho186; obtain ⟨Ao187, co187, eo187⟩ := Kd.R_slice HO257.out; subst eo187) | ((first | ((with_reducible refine gate_callee (f := 39) rfl ?_); refine bC (some 15) Try.func39 #[.slice Ao187 y255.length co187] ?_) | go_at_call 39); (with_reducible refine (point_right.calls k _ _ y255 true _ ?side1 ?side2 A5.out).mono ?_); (case side1 => repeat (first | exact (Kd.R_reads' HO257.out).2.2 | (with_reducible refine Kd.C_alloc ?_ _) | (with_reducible refine Kd.C_drewN ?_ _) | (with_reducible refine Kd.C_drew ?_))); (case side2 => exact (Kd.R_reads' HO257.out).2.1); rintro e w188 ⟨rfl, hb⟩; (first | refine ⟨_, rfl, ?_⟩ | skip); have n0_ := bA (Kd.R_below (by (with_reducible repeat (first | apply Kd.R_alloc | apply Kd.R_drewN | apply Kd.R_drew)); exact HO257.out) hb); have n1_ := bA (bB BK251 hb); have n2_ := bA (bB BK252 hb); have n3_ := bA (bB BK253 hb); have n4_ := bA (bB BK254 hb); have n5_ := bA (bS hb); clear HO257; clear BK251; clear BK252; clear BK253; clear BK254; clear HB; have HO257 := n0_; have BK251 := n1_; have BK252 := n2_; have BK253 := n3_; have BK254 := n4_; have HB := n5_; clear n0_ n1_ n2_ n3_ n4_ n5_; (try clear hb); (try clear hb2); (try clear hk); (try clear hi); have hcz189_0 : w188.cell? ⟨gb251, 0, none⟩ = some (.int .i64 a0_0) := (blk_cell BK251.out 0).trans rfl; have hcz189_1 : w188.cell? ⟨gb251, 1, none⟩ = some (.int .i64 a0_1) := (blk_cell BK251.out 1).trans rfl; have hfz189_0 := blk_frozen BK251.out 0; have hfz189_1 := blk_frozen BK251.out 1; have hcz190_0 : w188.cell? ⟨gb253, 0, none⟩ = some (.int .i64 a2_0) := (blk_cell BK253.out 0).trans rfl; have hcz190_1 : w188.cell? ⟨gb253, 1, none⟩ = some (.int .i64 a2_1) := (blk_cell BK253.out 1).trans rfl; have hfz190_0 := blk_frozen BK253.out 0; have hfz190_1 := blk_frozen BK253.out 1; have hcz191_0 : w188.cell? ⟨gb254, 0, none⟩ = some (.int .i64 a3_0) := (blk_cell BK254.out 0).trans rfl; have hcz191_1 : w188.cell? ⟨gb254, 1, none⟩ = some (.int .i64 a3_1) := (blk_cell BK254.out 1).trans rfl; have hfz191_0 := blk_frozen BK254.out 0; have hfz191_1 := blk_frozen BK254.out 1) | ((first | ((with_reducible refine gate_callee (f := 20) rfl ?_); refine bC (some 21) Try.func20 #[.agg #[.int .i64 a0_0, .int .i64 a0_1], .agg #[.int .i64 a2_0, .int .i64 a2_1], .agg #[.int .i64 a3_0, .int .i64 a3_1]] ?_) | go_at_call 20); (with_reducible refine (point_On.calls k a0_0 a0_1 a2_0 a2_1 a3_0 a3_1 false _ A7.out).mono ?_); rintro e w192 ⟨rfl, hb⟩; (first | refine ⟨_, rfl, ?_⟩ | skip); have n0_ := bA (Kd.R_below (by (with_reducible repeat (first | apply Kd.R_alloc | apply Kd.R_drewN | apply Kd.R_drew)); exact HO257.out) hb); have n1_ := bA (bB BK251 hb); have n2_ := bA (bB BK252 hb); have n3_ := bA (bB BK253 hb); have n4_ := bA (bB BK254 hb); have n5_ := bA (bS hb); clear HO257; clear BK251; clear BK252; clear BK253; clear BK254; clear HB; have HO257 := n0_; have BK251 := n1_; have BK252 := n2_; have BK253 := n3_; have BK254 := n4_; have HB := n5_; clear n0_ n1_ n2_ n3_ n4_ n5_; (try clear hb); (try clear hb2); (try clear hk); (try clear hi); have hcz193_0 : w192.cell? ⟨gb252, 0, none⟩ = some (.int .i64 a1_0) := (blk_cell BK252.out 0).trans rfl; have hcz193_1 : w192.cell? ⟨gb252, 1, none⟩ = some (.int .i64 a1_1) := (blk_cell BK252.out 1).trans rfl; have hfz193_0 := blk_frozen BK252.out 0; have hfz193_1 := blk_frozen BK252.out 1; have hcz194_0 : w192.cell? ⟨gb253, 0, none⟩ = some (.int .i64 a2_0) := (blk_cell BK253.out 0).trans rfl; have hcz194_1 : w192.cell? ⟨gb253, 1, none⟩ = some (.int .i64 a2_1) := (blk_cell BK253.out 1).trans rfl; have hfz194_0 := blk_frozen BK253.out 0; have hfz194_1 := blk_frozen BK253.out 1; have hcz195_0 : w192.cell? ⟨gb254, 0, none⟩ = some (.int .i64 a3_0) := (blk_cell BK254.out 0).trans rfl; have hcz195_1 : w192.cell? ⟨gb254, 1, none⟩ = some (.int .i64 a3_1) := (blk_cell BK254.out 1).trans rfl; have hfz195_0 := blk_frozen BK254.out 0; have hfz195_1 := blk_frozen BK254.out 1) | ((first | ((with_reducible refine gate_callee (f := 20) rfl ?_); refine bC (some 25) Try.func20 #[.agg #[.int .i64 a1_0, .int .i64 a1_1], .agg #[.int .i64 a2_0, .int .i64 a2_1], .agg #[.int .i64 a3_0, .int .i64 a3_1]] ?_) | go_at_call 20); (with_reducible refine (point_On.calls k a1_0 a1_1 a2_0 a2_1 a3_0 a3_1 false _ A31.out).mono ?_); rintro e w196 ⟨rfl, hb⟩; (first | refine ⟨_, rfl, ?_⟩ | skip); have n0_ := bA (Kd.R_below (by (with_reducible repeat (first | apply Kd.R_alloc | apply Kd.R_drewN | apply Kd.R_drew)); exact HO257.out) hb); have n1_ := bA (bB BK251 hb); have n2_ := bA (bB BK252 hb); have n3_ := bA (bB BK253 hb); have n4_ := bA (bB BK254 hb); have n5_ := bA (bS hb); clear HO257; clear BK251; clear BK252; clear BK253; clear BK254; clear HB; have HO257 := n0_; have BK251 := n1_; have BK252 := n2_; have BK253 := n3_; have BK254 := n4_; have HB := n5_; clear n0_ n1_ n2_ n3_ n4_ n5_; (try clear hb); (try clear hb2); (try clear hk); (try clear hi); have hcz197_0 : w196.cell? ⟨gb253, 0, none⟩ = some (.int .i64 a2_0) := (blk_cell BK253.out 0).trans rfl; have hcz197_1 : w196.cell? ⟨gb253, 1, none⟩ = some (.int .i64 a2_1) := (blk_cell BK253.out 1).trans rfl; have hfz197_0 := blk_frozen BK253.out 0; have hfz197_1 := blk_frozen BK253.out 1; have hcz198_0 : w196.cell? ⟨gb251, 0, none⟩ = some (.int .i64 a0_0) := (blk_cell BK251.out 0).trans rfl; have hcz198_1 : w196.cell? ⟨gb251, 1, none⟩ = some (.int .i64 a0_1) := (blk_cell BK251.out 1).trans rfl; have hfz198_0 := blk_frozen BK251.out 0; have hfz198_1 := blk_frozen BK251.out 1; have hcz199_0 : w196.cell? ⟨gb252, 0, none⟩ = some (.int .i64 a1_0) := (blk_cell BK252.out 0).trans rfl; have hcz199_1 : w196.cell? ⟨gb252, 1, none⟩ = some (.int .i64 a1_1) := (blk_cell BK252.out 1).trans rfl; have hfz199_0 := blk_frozen BK252.out 0; have hfz199_1 := blk_frozen BK252.out 1) | ((first | ((with_reducible refine gate_callee (f := 20) rfl ?_); refine bC (some 29) Try.func20 #[.agg #[.int .i64 a2_0, .int .i64 a2_1], .agg #[.int .i64 a0_0, .int .i64 a0_1], .agg #[.int .i64 a1_0, .int .i64 a1_1]] ?_) | go_at_call 20); (with_reducible refine (point_On.calls k a2_0 a2_1 a0_0 a0_1 a1_0 a1_1 false _ A59.out).mono ?_); rintro e w200 ⟨rfl, hb⟩; (first | refine ⟨_, rfl, ?_⟩ | skip); have n0_ := bA (Kd.R_below (by (with_reducible repeat (first | apply Kd.R_alloc | apply Kd.R_drewN | apply Kd.R_drew)); exact HO257.out) hb); have n1_ := bA (bB BK251 hb); have n2_ := bA (bB BK252 hb); have n3_ := bA (bB BK253 hb); have n4_ := bA (bB BK254 hb); have n5_ := bA (bS hb); clear HO257; clear BK251; clear BK252; clear BK253; clear BK254; clear HB; have HO257 := n0_; have BK251 := n1_; have BK252 := n2_; have BK253 := n3_; have BK254 := n4_; have HB := n5_; clear n0_ n1_ n2_ n3_ n4_ n5_; (try clear hb); (try clear hb2); (try clear hk); (try clear hi); have hcz201_0 : w200.cell? ⟨gb254, 0, none⟩ = some (.int .i64 a3_0) := (blk_cell BK254.out 0).trans rfl; have hcz201_1 : w200.cell? ⟨gb254, 1, none⟩ = some (.int .i64 a3_1) := (blk_cell BK254.out 1).trans rfl; have hfz201_0 := blk_frozen BK254.out 0; have hfz201_1 := blk_frozen BK254.out 1; have hcz202_0 : w200.cell? ⟨gb251, 0, none⟩ = some (.int .i64 a0_0) := (blk_cell BK251.out 0).trans rfl; have hcz202_1 : w200.cell? ⟨gb251, 1, none⟩ = some (.int .i64 a0_1) := (blk_cell BK251.out 1).trans rfl; have hfz202_0 := blk_frozen BK251.out 0; have hfz202_1 := blk_frozen BK251.out 1; have hcz203_0 : w200.cell? ⟨gb252, 0, none⟩ = some (.int .i64 a1_0) := (blk_cell BK252.out 0).trans rfl; have hcz203_1 : w200.cell? ⟨gb252, 1, none⟩ = some (.int .i64 a1_1) := (blk_cell BK252.out 1).trans rfl; have hfz203_0 := blk_frozen BK252.out 0; have hfz203_1 := blk_frozen BK252.out 1) | ((first | ((with_reducible refine gate_callee (f := 20) rfl ?_); refine bC (some 33) Try.func20 #[.agg #[.int .i64 a3_0, .int .i64 a3_1], .agg #[.int .i64 a0_0, .int .i64 a0_1], .agg #[.int .i64 a1_0, .int .i64 a1_1]] ?_) | go_at_call 20); (with_reducible refine (point_On.calls k a3_0 a3_1 a0_0 a0_1 a1_0 a1_1 false _ A91.out).mono ?_); rintro e w204 ⟨rfl, hb⟩; (first | refine ⟨_, rfl, ?_⟩ | skip); have n0_ := bA (Kd.R_below (by (with_reducible repeat (first | apply Kd.R_alloc | apply Kd.R_drewN | apply Kd.R_drew)); exact HO257.out) hb); have n1_ := bA (bB BK251 hb); have n2_ := bA (bB BK252 hb); have n3_ := bA (bB BK253 hb); have n4_ := bA (bB BK254 hb); have n5_ := bA (bS hb); clear HO257; clear BK251; clear BK252; clear BK253; clear BK254; clear HB; have HO257 := n0_; have BK251 := n1_; have BK252 := n2_; have BK253 := n3_; have BK254 := n4_; have HB := n5_; clear n0_ n1_ n2_ n3_ n4_ n5_; (try clear hb); (try clear hb2); (try clear hk); (try clear hi)))
       have n0_ := bA (Kd.R_drew HO257.out)
       have n1_ := bA (blk_drew BK251.out)
       have n2_ := bA (blk_drew BK252.out)
       have n3_ := bA (blk_drew BK253.out)
       have n4_ := bA (blk_drew BK254.out)
       have n5_ := bA (below_drew1 HB.out)
       clear HO257
       clear BK251
       clear BK252
       clear BK253
       clear BK254
       clear HB
       have HO257 := n0_
       have BK251 := n1_
       have BK252 := n2_
       have BK253 := n3_
       have BK254 := n4_
       have HB := n5_
       clear n0_ n1_ n2_ n3_ n4_ n5_
       refine start_ (n := 23) (S := fun w' => w'.cell? ⟨gb251, 0, none⟩ = some (.int .i64 a0_0) ∧ w'.cell? ⟨gb251, 1, none⟩ = some (.int .i64 a0_1) ∧ w'.cell? ⟨gb252, 0, none⟩ = some (.int .i64 a1_0) ∧ w'.cell? ⟨gb252, 1, none⟩ = some (.int .i64 a1_1) ∧ w'.cell? ⟨gb253, 0, none⟩ = some (.int .i64 a2_0) ∧ w'.cell? ⟨gb253, 1, none⟩ = some (.int .i64 a2_1) ∧ w'.cell? ⟨gb254, 0, none⟩ = some (.int .i64 a3_0) ∧ w'.cell? ⟨gb254, 1, none⟩ = some (.int .i64 a3_1)) (ds := []) #[false, false, false, false, false, false, false, false, false, false, false, false, false, false, false, false, false, false, false, false, false, false, false] (by kernel_rfl) rfl rfl ⟨(blk_cell BK251.out 0).trans rfl, (blk_cell BK251.out 1).trans rfl, (blk_cell BK252.out 0).trans rfl, (blk_cell BK252.out 1).trans rfl, (blk_cell BK253.out 0).trans rfl, (blk_cell BK253.out 1).trans rfl, (blk_cell BK254.out 0).trans rfl, (blk_cell BK254.out 1).trans rfl⟩ (fun hHeld => ?_); refine with_tabW point_Meet.tab8 point_Meet.bits8 (fun HT_ HW_ => ?_)
       generalize w204.drew = w205 at HO257 BK251 BK252 BK253 BK254 HB hHeld ⊢
       refine take_ (i := 0) (N := some 34) (v := ?_) (a' := ?_) #[true, false, false, false, false, false, false, false, false, false, false, false, false, false, false, false, false, false, false, false, false, false, false] rfl rfl (take_ofW HT_.out HW_.out (by kernel_rfl)) (fun _ _ _ h => h) (Or.inl ⟨by rfl, ?_⟩) hHeld ?_ ?_
       rotate_left
       ·rintro w' ⟨s0, s1, s2, s3, s4, s5, s6, s7⟩
        go_simp
        with_reducible rfl
       rotate_left
       ·simp only [Act.put, List.setIfInBounds_toArray, List.set_cons_zero, List.set_cons_succ, i64_w, i32_w]
        rfl
       refine take_ (i := 1) (N := some 35) (v := ?_) (a' := ?_) #[true, true, false, false, false, false, false, false, false, false, false, false, false, false, false, false, false, false, false, false, false, false, false] rfl rfl (take_ofW HT_.out HW_.out (by kernel_rfl)) (fun _ _ _ h => h) (Or.inl ⟨by rfl, ?_⟩) hHeld ?_ ?_
       rotate_left
       ·rintro w' ⟨s0, s1, s2, s3, s4, s5, s6, s7⟩
        go_simp
        with_reducible rfl
       rotate_left
       ·simp only [Act.put, List.setIfInBounds_toArray, List.set_cons_zero, List.set_cons_succ, i64_w, i32_w]
        rfl
       refine take_ (i := 2) (N := some 36) (v := ?_) (a' := ?_) #[true, true, true, false, false, false, false, false, false, false, false, false, false, false, false, false, false, false, false, false, false, false, false] rfl rfl (take_ofW HT_.out HW_.out (by kernel_rfl)) (fun _ _ _ h => h) (Or.inl ⟨by rfl, ?_⟩) hHeld ?_ ?_
       rotate_left
       ·rintro w' ⟨s0, s1, s2, s3, s4, s5, s6, s7⟩
        go_simp
        with_reducible rfl
       rotate_left
       ·simp only [Act.put, List.setIfInBounds_toArray, List.set_cons_zero, List.set_cons_succ, i64_w, i32_w]
        rfl
       refine take_ (i := 4) (N := some 38) (v := ?_) (a' := ?_) #[true, true, true, false, true, false, false, false, false, false, false, false, false, false, false, false, false, false, false, false, false, false, false] rfl rfl (take_ofW HT_.out HW_.out (by kernel_rfl)) (fun _ _ _ h => h) (Or.inl ⟨by rfl, ?_⟩) hHeld ?_ ?_
       rotate_left
       ·rintro w' ⟨s0, s1, s2, s3, s4, s5, s6, s7⟩
        go_simp
        with_reducible rfl
       rotate_left
       ·simp only [Act.put, List.setIfInBounds_toArray, List.set_cons_zero, List.set_cons_succ, i64_w, i32_w]
        rfl
       refine take_ (i := 5) (N := some 39) (v := ?_) (a' := ?_) #[true, true, true, false, true, true, false, false, false, false, false, false, false, false, false, false, false, false, false, false, false, false, false] rfl rfl (take_ofW HT_.out HW_.out (by kernel_rfl)) (fun _ _ _ h => h) (Or.inl ⟨by rfl, ?_⟩) hHeld ?_ ?_
       rotate_left
       ·rintro w' ⟨s0, s1, s2, s3, s4, s5, s6, s7⟩
        go_simp
        with_reducible rfl
       rotate_left
       ·simp only [Act.put, List.setIfInBounds_toArray, List.set_cons_zero, List.set_cons_succ, i64_w, i32_w]
        rfl
       refine take_ (i := 6) (N := some 40) (v := ?_) (a' := ?_) #[true, true, true, false, true, true, true, false, false, false, false, false, false, false, false, false, false, false, false, false, false, false, false] rfl rfl (take_ofW HT_.out HW_.out (by kernel_rfl)) (fun _ _ _ h => h) (Or.inl ⟨by rfl, ?_⟩) hHeld ?_ ?_
       rotate_left
       ·rintro w' ⟨s0, s1, s2, s3, s4, s5, s6, s7⟩
        go_simp
        with_reducible rfl
       rotate_left
       ·simp only [Act.put, List.setIfInBounds_toArray, List.set_cons_zero, List.set_cons_succ, i64_w, i32_w]
        rfl
       refine one_ (i := 3) (N := some 37) #[true, true, true, true, true, true, true, false, false, false, false, false, false, false, false, false, false, false, false, false, false, false, false] rfl rfl (one_of HT_.out (by kernel_rfl)) (by decide) (fun K hK => ?_)
       refine goes_ Try.func18 (by kernel_rfl) rfl #[.agg #[.int .i64 a0_0, .int .i64 a0_1], .agg #[.int .i64 a1_0, .int .i64 a1_1], .agg #[.int .i64 a2_0, .int .i64 a2_1]] (by rfl) rfl rfl (by (try simp only [List.map_toArray, List.map_cons, List.map_nil]); first | done | rfl | (simp only [List.length_drop, List.length_take]; rfl)) ?_
       with_reducible refine (point_Turn.calls k a0_0 a0_1 a1_0 a1_1 a2_0 a2_1 t263 _ A127.out).mono ?_
       rintro e w206 ⟨rfl, hb⟩
       refine ⟨_, rfl, ?_⟩
       have n0_ := bA (Kd.R_below (by (with_reducible repeat (first | apply Kd.R_alloc | apply Kd.R_drewN | apply Kd.R_drew)); exact HO257.out) hb)
       have n1_ := bA (bB BK251 hb)
       have n2_ := bA (bB BK252 hb)
       have n3_ := bA (bB BK253 hb)
       have n4_ := bA (bB BK254 hb)
       have n5_ := bA (bS hb)
       clear HO257
       clear BK251
       clear BK252
       clear BK253
       clear BK254
       clear HB
       have HO257 := n0_
       have BK251 := n1_
       have BK252 := n2_
       have BK253 := n3_
       have BK254 := n4_
       have HB := n5_
       clear n0_ n1_ n2_ n3_ n4_ n5_
       (try clear hb)
       (try clear hb2)
       (try clear hk)
       (try clear hi)
       refine hK.out _ _ ⟨(blk_cell BK251.out 0).trans rfl, (blk_cell BK251.out 1).trans rfl, (blk_cell BK252.out 0).trans rfl, (blk_cell BK252.out 1).trans rfl, (blk_cell BK253.out 0).trans rfl, (blk_cell BK253.out 1).trans rfl, (blk_cell BK254.out 0).trans rfl, (blk_cell BK254.out 1).trans rfl⟩ (fun hHeld => ?_)
       clear hK K
       refine norm_ (a' := ?_) ?_ ?_
       rotate_left
       ·show Act.put _ (some 37) _ = _
        simp only [Act.put, List.setIfInBounds_toArray, List.set_cons_zero, List.set_cons_succ, i64_w, i32_w]
        rfl
       refine one_ (i := 7) (N := some 41) #[true, true, true, true, true, true, true, true, false, false, false, false, false, false, false, false, false, false, false, false, false, false, false] rfl rfl (one_of HT_.out (by kernel_rfl)) (by decide) (fun K hK => ?_)
       refine goes_ Try.func18 (by kernel_rfl) rfl #[.agg #[.int .i64 a0_0, .int .i64 a0_1], .agg #[.int .i64 a1_0, .int .i64 a1_1], .agg #[.int .i64 a3_0, .int .i64 a3_1]] (by rfl) rfl rfl (by (try simp only [List.map_toArray, List.map_cons, List.map_nil]); first | done | rfl | (simp only [List.length_drop, List.length_take]; rfl)) ?_
       with_reducible refine (point_Turn.calls k a0_0 a0_1 a1_0 a1_1 a3_0 a3_1 t264 _ A128.out).mono ?_
       rintro e w207 ⟨rfl, hb⟩
       refine ⟨_, rfl, ?_⟩
       have n0_ := bA (Kd.R_below (by (with_reducible repeat (first | apply Kd.R_alloc | apply Kd.R_drewN | apply Kd.R_drew)); exact HO257.out) hb)
       have n1_ := bA (bB BK251 hb)
       have n2_ := bA (bB BK252 hb)
       have n3_ := bA (bB BK253 hb)
       have n4_ := bA (bB BK254 hb)
       have n5_ := bA (bS hb)
       clear HO257
       clear BK251
       clear BK252
       clear BK253
       clear BK254
       clear HB
       have HO257 := n0_
       have BK251 := n1_
       have BK252 := n2_
       have BK253 := n3_
       have BK254 := n4_
       have HB := n5_
       clear n0_ n1_ n2_ n3_ n4_ n5_
       (try clear hb)
       (try clear hb2)
       (try clear hk)
       (try clear hi)
       refine hK.out _ _ ⟨(blk_cell BK251.out 0).trans rfl, (blk_cell BK251.out 1).trans rfl, (blk_cell BK252.out 0).trans rfl, (blk_cell BK252.out 1).trans rfl, (blk_cell BK253.out 0).trans rfl, (blk_cell BK253.out 1).trans rfl, (blk_cell BK254.out 0).trans rfl, (blk_cell BK254.out 1).trans rfl⟩ (fun hHeld => ?_)
       clear hK K
       refine norm_ (a' := ?_) ?_ ?_
       rotate_left
       ·show Act.put _ (some 41) _ = _
        simp only [Act.put, List.setIfInBounds_toArray, List.set_cons_zero, List.set_cons_succ, i64_w, i32_w]
        rfl
       refine pure_ (i := 8) (N := some 42) (v := ?_) (a' := ?_) #[true, true, true, true, true, true, true, true, true, false, false, false, false, false, false, false, false, false, false, false, false, false, false] rfl rfl (any_of HT_.out (by kernel_rfl)) (fun _ _ _ h => h) (Or.inl ⟨by rfl, ?_⟩) ?_ ?_
       rotate_left
       ·intro w'
        go_simp
        with_reducible rfl
       rotate_left
       ·simp only [Act.put, List.setIfInBounds_toArray, List.set_cons_zero, List.set_cons_succ, i64_w, i32_w]
        rfl
       refine pure_ (i := 9) (N := some 43) (v := ?_) (a' := ?_) #[true, true, true, true, true, true, true, true, true, true, false, false, false, false, false, false, false, false, false, false, false, false, false] rfl rfl (any_of HT_.out (by kernel_rfl)) (fun _ _ _ h => h) (Or.inl ⟨by rfl, ?_⟩) ?_ ?_
       rotate_left
       ·intro w'
        go_simp
        with_reducible rfl
       rotate_left
       ·simp only [Act.put, List.setIfInBounds_toArray, List.set_cons_zero, List.set_cons_succ, i64_w, i32_w]
        rfl
       refine pure_ (i := 10) (N := some 44) (v := ?_) (a' := ?_) #[true, true, true, true, true, true, true, true, true, true, true, false, false, false, false, false, false, false, false, false, false, false, false] rfl rfl (any_of HT_.out (by kernel_rfl)) (fun _ _ _ h => h) (Or.inl ⟨by rfl, ?_⟩) ?_ ?_
       rotate_left
       ·intro w'
        go_simp
        with_reducible rfl
       rotate_left
       ·simp only [Act.put, List.setIfInBounds_toArray, List.set_cons_zero, List.set_cons_succ, i64_w, i32_w]
        rfl
       refine pure_ (i := 11) (N := some 45) (v := undef) (a' := ?_) #[true, true, true, true, true, true, true, true, true, true, true, true, false, false, false, false, false, false, false, false, false, false, false] rfl rfl (any_of HT_.out (by kernel_rfl)) (fun _ _ _ h => h) (Or.inr ⟨by rfl, rfl⟩) ?_ ?_
       rotate_left
       ·simp only [Act.put, List.setIfInBounds_toArray, List.set_cons_zero, List.set_cons_succ, i64_w, i32_w]
        rfl
       refine pure_ (i := 12) (N := some 46) (v := undef) (a' := ?_) #[true, true, true, true, true, true, true, true, true, true, true, true, true, false, false, false, false, false, false, false, false, false, false] rfl rfl (any_of HT_.out (by kernel_rfl)) (fun _ _ _ h => h) (Or.inr ⟨by rfl, rfl⟩) ?_ ?_
       rotate_left
       ·simp only [Act.put, List.setIfInBounds_toArray, List.set_cons_zero, List.set_cons_succ, i64_w, i32_w]
        rfl
       refine pure_ (i := 13) (N := some 47) (v := undef) (a' := ?_) #[true, true, true, true, true, true, true, true, true, true, true, true, true, true, false, false, false, false, false, false, false, false, false] rfl rfl (any_of HT_.out (by kernel_rfl)) (fun _ _ _ h => h) (Or.inr ⟨by rfl, rfl⟩) ?_ ?_
       rotate_left
       ·simp only [Act.put, List.setIfInBounds_toArray, List.set_cons_zero, List.set_cons_succ, i64_w, i32_w]
        rfl
       refine pure_ (i := 14) (N := some 48) (v := undef) (a' := ?_) #[true, true, true, true, true, true, true, true, true, true, true, true, true, true, true, false, false, false, false, false, false, false, false] rfl rfl (any_of HT_.out (by kernel_rfl)) (fun _ _ _ h => h) (Or.inr ⟨by rfl, rfl⟩) ?_ ?_
       rotate_left
       ·simp only [Act.put, List.setIfInBounds_toArray, List.set_cons_zero, List.set_cons_succ, i64_w, i32_w]
        rfl
       refine pure_ (i := 15) (N := some 49) (v := undef) (a' := ?_) #[true, true, true, true, true, true, true, true, true, true, true, true, true, true, true, true, false, false, false, false, false, false, false] rfl rfl (any_of HT_.out (by kernel_rfl)) (fun _ _ _ h => h) (Or.inr ⟨by rfl, rfl⟩) ?_ ?_
       rotate_left
       ·simp only [Act.put, List.setIfInBounds_toArray, List.set_cons_zero, List.set_cons_succ, i64_w, i32_w]
        rfl
       refine pure_ (i := 16) (N := some 50) (v := undef) (a' := ?_) #[true, true, true, true, true, true, true, true, true, true, true, true, true, true, true, true, true, false, false, false, false, false, false] rfl rfl (any_of HT_.out (by kernel_rfl)) (fun _ _ _ h => h) (Or.inr ⟨by rfl, rfl⟩) ?_ ?_
       rotate_left
       ·simp only [Act.put, List.setIfInBounds_toArray, List.set_cons_zero, List.set_cons_succ, i64_w, i32_w]
        rfl
       refine pure_ (i := 17) (N := some 51) (v := undef) (a' := ?_) #[true, true, true, true, true, true, true, true, true, true, true, true, true, true, true, true, true, true, false, false, false, false, false] rfl rfl (any_of HT_.out (by kernel_rfl)) (fun _ _ _ h => h) (Or.inr ⟨by rfl, rfl⟩) ?_ ?_
       rotate_left
       ·simp only [Act.put, List.setIfInBounds_toArray, List.set_cons_zero, List.set_cons_succ, i64_w, i32_w]
        rfl
       refine pure_ (i := 18) (N := some 52) (v := undef) (a' := ?_) #[true, true, true, true, true, true, true, true, true, true, true, true, true, true, true, true, true, true, true, false, false, false, false] rfl rfl (any_of HT_.out (by kernel_rfl)) (fun _ _ _ h => h) (Or.inr ⟨by rfl, rfl⟩) ?_ ?_
       rotate_left
       ·simp only [Act.put, List.setIfInBounds_toArray, List.set_cons_zero, List.set_cons_succ, i64_w, i32_w]
        rfl
       refine pure_ (i := 19) (N := some 53) (v := undef) (a' := ?_) #[true, true, true, true, true, true, true, true, true, true, true, true, true, true, true, true, true, true, true, true, false, false, false] rfl rfl (any_of HT_.out (by kernel_rfl)) (fun _ _ _ h => h) (Or.inr ⟨by rfl, rfl⟩) ?_ ?_
       rotate_left
       ·simp only [Act.put, List.setIfInBounds_toArray, List.set_cons_zero, List.set_cons_succ, i64_w, i32_w]
        rfl
       refine pure_ (i := 20) (N := some 54) (v := undef) (a' := ?_) #[true, true, true, true, true, true, true, true, true, true, true, true, true, true, true, true, true, true, true, true, true, false, false] rfl rfl (any_of HT_.out (by kernel_rfl)) (fun _ _ _ h => h) (Or.inr ⟨by rfl, rfl⟩) ?_ ?_
       rotate_left
       ·simp only [Act.put, List.setIfInBounds_toArray, List.set_cons_zero, List.set_cons_succ, i64_w, i32_w]
        rfl
       refine pure_ (i := 21) (N := some 55) (v := ?_) (a' := ?_) #[true, true, true, true, true, true, true, true, true, true, true, true, true, true, true, true, true, true, true, true, true, true, false] rfl rfl (any_of HT_.out (by kernel_rfl)) (fun _ _ _ h => h) (Or.inl ⟨by rfl, ?_⟩) ?_ ?_
       rotate_left
       ·intro w'
        go_simp
        with_reducible rfl
       rotate_left
       ·simp only [Act.put, List.setIfInBounds_toArray, List.set_cons_zero, List.set_cons_succ, i64_w, i32_w]
        rfl
       refine pure_ (i := 22) (N := some 8) (v := ?_) (a' := ?_) #[true, true, true, true, true, true, true, true, true, true, true, true, true, true, true, true, true, true, true, true, true, true, true] rfl rfl (any_of HT_.out (by kernel_rfl)) (fun _ _ _ h => h) (Or.inl ⟨by rfl, ?_⟩) ?_ ?_
       rotate_left
       ·intro w'
        go_simp
        with_reducible rfl
       rotate_left
       ·simp only [Act.put, List.setIfInBounds_toArray, List.set_cons_zero, List.set_cons_succ, i64_w, i32_w]
        rfl
       refine done_ (done_of HT_.out (by kernel_rfl)) ?_
       try go_wp2
       go_ret
       exact bF
 ·replace c6 := Bool.eq_false_iff.mpr c6
  subst c6
  rw [if_neg (show ¬ (false = true) by decide)] at H
  obtain rfl := Option.some.inj H
  go_enter Try.func22, Try.ntmps22
  go_wp2_with (first | ((with_reducible refine gate_dst (N := 4) rfl ?_); refine bE (N := 4) (cs := #[.int .i64 a0_0, .int .i64 a0_1]) (t := 31) ?_; intro gb251 hg w208 hbox hb; have n0_ := bA (bS hb); have n1_ := bA (hbox); have n2_ := bA ((bZ hg : w.heap.size ≤ gb251)); have n3_ := bA ((bZ hg : w.heap.size ≤ gb251)); clear HB; have HB := n0_; have BK251 := n1_; have GW251 := n2_; have GE251 := n3_; clear n0_ n1_ n2_ n3_; clear hb hbox hg) | ((with_reducible refine gate_dst (N := 5) rfl ?_); refine bE (N := 5) (cs := #[.int .i64 a1_0, .int .i64 a1_1]) (t := 31) ?_; intro gb252 hg w209 hbox hb; have n0_ := bA (bB BK251 hb); have n1_ := bA (bS hb); have n2_ := bA (hbox); have n3_ := bA ((bZ hg : w.heap.size ≤ gb252)); have n4_ := bA ((bZ hg : w.heap.size ≤ gb252)); have n5_ := bA ((bL BK251 hg : gb251 ≠ gb252)); have n6_ := bA ((bG BK251 hg : gb252 ≠ gb251)); clear BK251; clear HB; have BK251 := n0_; have HB := n1_; have BK252 := n2_; have GW252 := n3_; have GE252 := n4_; have NB251_252 := n5_; have NB252_251 := n6_; clear n0_ n1_ n2_ n3_ n4_ n5_ n6_; clear hb hbox hg) | ((with_reducible refine gate_dst (N := 6) rfl ?_); refine bE (N := 6) (cs := #[.int .i64 a2_0, .int .i64 a2_1]) (t := 31) ?_; intro gb253 hg w210 hbox hb; have n0_ := bA (bB BK251 hb); have n1_ := bA (bB BK252 hb); have n2_ := bA (bS hb); have n3_ := bA (hbox); have n4_ := bA ((bZ hg : w.heap.size ≤ gb253)); have n5_ := bA ((bZ hg : w.heap.size ≤ gb253)); have n6_ := bA ((bL BK251 hg : gb251 ≠ gb253)); have n7_ := bA ((bG BK251 hg : gb253 ≠ gb251)); have n8_ := bA ((bL BK252 hg : gb252 ≠ gb253)); have n9_ := bA ((bG BK252 hg : gb253 ≠ gb252)); clear BK251; clear BK252; clear HB; have BK251 := n0_; have BK252 := n1_; have HB := n2_; have BK253 := n3_; have GW253 := n4_; have GE253 := n5_; have NB251_253 := n6_; have NB253_251 := n7_; have NB252_253 := n8_; have NB253_252 := n9_; clear n0_ n1_ n2_ n3_ n4_ n5_ n6_ n7_ n8_ n9_; clear hb hbox hg) | ((with_reducible refine gate_dst (N := 7) rfl ?_); refine bE (N := 7) (cs := #[.int .i64 a3_0, .int .i64 a3_1]) (t := 31) ?_; intro gb254 hg w211 hbox hb; have n0_ := bA (bB BK251 hb); have n1_ := bA (bB BK252 hb); have n2_ := bA (bB BK253 hb); have n3_ := bA (bS hb); have n4_ := bA (hbox); have n5_ := bA ((bZ hg : w.heap.size ≤ gb254)); have n6_ := bA ((bZ hg : w.heap.size ≤ gb254)); have n7_ := bA ((bL BK251 hg : gb251 ≠ gb254)); have n8_ := bA ((bG BK251 hg : gb254 ≠ gb251)); have n9_ := bA ((bL BK252 hg : gb252 ≠ gb254)); have n10_ := bA ((bG BK252 hg : gb254 ≠ gb252)); have n11_ := bA ((bL BK253 hg : gb253 ≠ gb254)); have n12_ := bA ((bG BK253 hg : gb254 ≠ gb253)); clear BK251; clear BK252; clear BK253; clear HB; have BK251 := n0_; have BK252 := n1_; have BK253 := n2_; have HB := n3_; have BK254 := n4_; have GW254 := n5_; have GE254 := n6_; have NB251_254 := n7_; have NB254_251 := n8_; have NB252_254 := n9_; have NB254_252 := n10_; have NB253_254 := n11_; have NB254_253 := n12_; clear n0_ n1_ n2_ n3_ n4_ n5_ n6_ n7_ n8_ n9_ n10_ n11_ n12_; clear hb hbox hg; have hnb212 := NB251_252.out; have hnc212 := NB252_251.out; have hnb213 := NB251_253.out; have hnc213 := NB253_251.out; have hnb214 := NB251_254.out; have hnc214 := NB254_251.out; have hcz215_0 : w211.cell? ⟨gb251, 0, none⟩ = some (.int .i64 a0_0) := (blk_cell BK251.out 0).trans rfl; have hcz215_1 : w211.cell? ⟨gb251, 1, none⟩ = some (.int .i64 a0_1) := (blk_cell BK251.out 1).trans rfl; have hfz215_0 := blk_frozen BK251.out 0; have hfz215_1 := blk_frozen BK251.out 1; have hnb216 := NB252_253.out; have hnc216 := NB253_252.out; have hnb217 := NB252_254.out; have hnc217 := NB254_252.out; have hcz218_0 : w211.cell? ⟨gb252, 0, none⟩ = some (.int .i64 a1_0) := (blk_cell BK252.out 0).trans rfl; have hcz218_1 : w211.cell? ⟨gb252, 1, none⟩ = some (.int .i64 a1_1) := (blk_cell BK252.out 1).trans rfl; have hfz218_0 := blk_frozen BK252.out 0; have hfz218_1 := blk_frozen BK252.out 1; have hnb219 := NB253_254.out; have hnc219 := NB254_253.out; have hcz220_0 : w211.cell? ⟨gb253, 0, none⟩ = some (.int .i64 a2_0) := (blk_cell BK253.out 0).trans rfl; have hcz220_1 : w211.cell? ⟨gb253, 1, none⟩ = some (.int .i64 a2_1) := (blk_cell BK253.out 1).trans rfl; have hfz220_0 := blk_frozen BK253.out 0; have hfz220_1 := blk_frozen BK253.out 1; have hcz221_0 : w211.cell? ⟨gb254, 0, none⟩ = some (.int .i64 a3_0) := (blk_cell BK254.out 0).trans rfl; have hcz221_1 : w211.cell? ⟨gb254, 1, none⟩ = some (.int .i64 a3_1) := (blk_cell BK254.out 1).trans rfl; have hfz221_0 := blk_frozen BK254.out 0; have hfz221_1 := blk_frozen BK254.out 1) | ((with_reducible refine gate_dst (N := 14) rfl ?_); refine Kd.R_lit k31 _ 31 ?hg (N := 14) ?hd (xs := ([(⟨a0_0, a0_1⟩ : S31), (⟨a1_0, a1_1⟩ : S31), (⟨a2_0, a2_1⟩ : S31), (⟨a3_0, a3_1⟩ : S31)] : List (S31))) (inner := [.int .i64 a0_0, .int .i64 a0_1, .int .i64 a1_0, .int .i64 a1_1, .int .i64 a2_0, .int .i64 a2_1, .int .i64 a3_0, .int .i64 a3_1]) (ok := fun _ => True) (okp := fun _ => True) ?hr ?hp (fun _ hk => hk) trivial (Below.refl _ _) (Nat.le_refl _) (by simp) ?_; (case hd => rfl); (case hg => rfl); (case hr => first | (go_simp; done) | (go_simp; rfl)); (case hp => exact (Reps.c2 (show Kd.M k31 _ _ _ (⟨a0_0, a0_1⟩ : S31) [.int .i64 a0_0, .int .i64 a0_1] from (k31_mkM _ _ _ (⟨a0_0, a0_1⟩ : S31) )) (Reps.c2 (show Kd.M k31 _ _ _ (⟨a1_0, a1_1⟩ : S31) [.int .i64 a1_0, .int .i64 a1_1] from (k31_mkM _ _ _ (⟨a1_0, a1_1⟩ : S31) )) (Reps.c2 (show Kd.M k31 _ _ _ (⟨a2_0, a2_1⟩ : S31) [.int .i64 a2_0, .int .i64 a2_1] from (k31_mkM _ _ _ (⟨a2_0, a2_1⟩ : S31) )) (Reps.c2 (show Kd.M k31 _ _ _ (⟨a3_0, a3_1⟩ : S31) [.int .i64 a3_0, .int .i64 a3_1] from (k31_mkM _ _ _ (⟨a3_0, a3_1⟩ : S31) )) (Reps.none _ _)))))); intro v256 w222 ho223 hb hg_ hnew_; clear hg_ hnew_; (first | rw [← Ny255.out] at ho223 | (simp only [Int.reduceToNat] at ho223; rw [← Ny255.out] at ho223)); have n0_ := bA (Kd.R_lower (bN (bN (bN (bN ho223 BK251) BK252) BK253) BK254) bY); have n1_ := bA (bB BK251 hb); have n2_ := bA (bB BK252 hb); have n3_ := bA (bB BK253 hb); have n4_ := bA (bB BK254 hb); have n5_ := bA (bS hb); clear BK251; clear BK252; clear BK253; clear BK254; clear HB; have HO257 := n0_; have BK251 := n1_; have BK252 := n2_; have BK253 := n3_; have BK254 := n4_; have HB := n5_; clear n0_ n1_ n2_ n3_ n4_ n5_; clear hb ho223; obtain ⟨Ao224, co224, eo224⟩ := Kd.R_slice HO257.out; subst eo224) | ((first | ((with_reducible refine gate_callee (f := 39) rfl ?_); refine bC (some 15) Try.func39 #[.slice Ao224 y255.length co224] ?_) | go_at_call 39); (with_reducible refine (point_right.calls k _ _ y255 false _ ?side1 ?side2 A5.out).mono ?_); (case side1 => repeat (first | exact (Kd.R_reads' HO257.out).2.2 | (with_reducible refine Kd.C_alloc ?_ _) | (with_reducible refine Kd.C_drewN ?_ _) | (with_reducible refine Kd.C_drew ?_))); (case side2 => exact (Kd.R_reads' HO257.out).2.1); rintro e w225 ⟨rfl, hb⟩; (first | refine ⟨_, rfl, ?_⟩ | skip); have n0_ := bA (Kd.R_below (by (with_reducible repeat (first | apply Kd.R_alloc | apply Kd.R_drewN | apply Kd.R_drew)); exact HO257.out) hb); have n1_ := bA (bB BK251 hb); have n2_ := bA (bB BK252 hb); have n3_ := bA (bB BK253 hb); have n4_ := bA (bB BK254 hb); have n5_ := bA (bS hb); clear HO257; clear BK251; clear BK252; clear BK253; clear BK254; clear HB; have HO257 := n0_; have BK251 := n1_; have BK252 := n2_; have BK253 := n3_; have BK254 := n4_; have HB := n5_; clear n0_ n1_ n2_ n3_ n4_ n5_; (try clear hb); (try clear hb2); (try clear hk); (try clear hi)))
  go_ret
  exact bF
/-! ### slices_Equal_Point: function 55 -/
def slices_Equal_Point.l0 : Nat → List (S31) → List (S31) → Int → Int → Option (Bool)
 | 0, _, _, _, _ => none
 | k + 1, x0, x1, x12, x13 => if x13 < x12 then (if 0 ≤ x13 then (if x13 < (x0.length : Int) then (if x13 < (x1.length : Int) then (if (!(((rd_T31 x0 x13).f0) == ((rd_T31 x1 x13).f0)) || (!(((rd_T31 x0 x13).f1) == ((rd_T31 x1 x13).f1)))) = true then (some false) else (slices_Equal_Point.l0 k x0 x1 x12 (wrap64 (x13 + 1)))) else (none)) else (none)) else (none)) else (some true)
def slices_Equal_Point.f (k : Nat) (l0 : List (S31)) (l1 : List (S31)) : Option (Bool) := if (l0.length : Int) = (l1.length : Int) then (slices_Equal_Point.l0 k l0 l1 (l0.length : Int) 0) else (some false)
theorem slices_Equal_Point.mono_l : ∀ k, (∀ y0 y1 y2 y3, LeO (slices_Equal_Point.l0 k y0 y1 y2 y3) (slices_Equal_Point.l0 (k + 1) y0 y1 y2 y3))
 | 0 => fun _ _ _ _ r h => by simp [slices_Equal_Point.l0] at h
 | k + 1 => by
  have ih0 := slices_Equal_Point.mono_l k
  ·intro y0 y1 y2 y3
   unfold slices_Equal_Point.l0
   repeat' first
   | (with_reducible exact ih0 _ _ _ _)
   | (with_reducible exact LeO.refl _)
   | (with_reducible exact LeO.none _)
   | (with_reducible refine LeO.ite ?_ ?_)
   | (with_reducible refine LeO.bind ?_ (fun _ => ?_))
   | exact ih0 _ _ _ _
   | exact LeO.none _
   | refine LeO.ite ?_ ?_
   | refine LeO.bind ?_ (fun _ => ?_)
theorem slices_Equal_Point.mono : ∀ a0 a1 k, LeO (slices_Equal_Point.f k a0 a1) (slices_Equal_Point.f (k + 1) a0 a1) := by
 intro a0 a1 k
 have ih0 := slices_Equal_Point.mono_l k
 unfold slices_Equal_Point.f
 repeat' first
   | (with_reducible exact ih0 _ _ _ _)
   | (with_reducible exact LeO.refl _)
   | (with_reducible exact LeO.none _)
   | (with_reducible refine LeO.ite ?_ ?_)
   | (with_reducible refine LeO.bind ?_ (fun _ => ?_))
   | exact ih0 _ _ _ _
   | exact LeO.none _
   | refine LeO.ite ?_ ?_
   | refine LeO.bind ?_ (fun _ => ?_)
set_option maxHeartbeats 8000000 in
set_option maxRecDepth 100000 in
theorem slices_Equal_Point.calls (k : Nat) (A0 : Option Addr) (c0 : Nat) (l0 : List (S31)) (A1 : Option Addr) (c1 : Nat) (l1 : List (S31)) (r : Bool) (w : World) (hr0 : Kd.C k31 w A0 l0.length l0) (hc0 : l0.length ≤ c0) (hr1 : Kd.C k31 w A1 l1.length l1) (hc1 : l1.length ≤ c1) (h : slices_Equal_Point.f k l0 l1 = some r) :
  Calls Try.prog 55 #[.slice A0 l0.length c0, .slice A1 l1.length c1] w fun e w' => e = .returned (.bool r) ∧ Drawn0 w w' := by
 have hu31 := Try.underlying31
 have HR0 := bA hr0
 have HC0 := bA hc0
 clear hr0 hc0
 have HR1 := bA hr1
 have HC1 := bA hc1
 clear hr1 hc1
 have H : (if (l0.length : Int) = (l1.length : Int) then (slices_Equal_Point.l0 k l0 l1 (l0.length : Int) 0) else (some false)) = some r := h
 clear h
 by_cases c3 : (l0.length : Int) = (l1.length : Int)
 ·rw [if_pos c3] at H
  have c3b0 : ((l0.length : Int) == (l1.length : Int)) = true := beq_iff_eq.mpr c3
  have c3b1 : ((l0.length : Int) != (l1.length : Int)) = false := bne_eq_false_iff_eq.mpr c3
  have c3b2 : (l0.length == l1.length) = true := by first | simpa using c3 | (simp at c3 ⊢; omega)
  clear c3
  have H' := bA H
  clear H
  go_enter Try.func55, Try.ntmps55
  go_wp2
  repeat (go_quiet (fail); try go_wp2)
  go_loopg [13] k (fun kq v13 w' => ∃ (x13_1 : Int), v13 = .int .i64 x13_1 ∧ Aside0 (slices_Equal_Point.l0 kq l0 l1 (l0.length : Int) x13_1 = some r) ∧ Aside0 (kq ≤ k) ∧ Drawn0 w w')
  case atStart => exact ⟨(0), (by first | rfl | (simp; done) | (simp [*]; done)), H', ⟨Nat.le_refl _⟩, by repeat (first | exact Drawn0.refl _ | apply Drawn0.step)⟩
  case round =>
   clear H'
   try clear c1
   try clear p2
   try clear c3
   try clear c3b0
   try clear c3b1
   try clear c3b2
   obtain ⟨x13_1, rfl, HA, HK1, ⟨m1, rfl⟩⟩ := hrel
   cases gk with
   | zero => exact absurd HA.out (by simp [slices_Equal_Point.l0])
   | succ k1 =>
    have H := HA.out
    clear HA
    simp only [slices_Equal_Point.l0] at H
    by_cases c4 : x13_1 < (l0.length : Int)
    ·rw [if_pos c4] at H
     have c4b0 : decide (x13_1 < (l0.length : Int)) = true := decide_eq_true c4
     clear c4
     by_cases c5 : 0 ≤ x13_1
     ·rw [if_pos c5] at H
      have c5b0 : decide (0 ≤ x13_1) = true := decide_eq_true c5
      clear c5
      by_cases c6 : x13_1 < (l0.length : Int)
      ·rw [if_pos c6] at H
       have c6b0 : decide (x13_1 < (l0.length : Int)) = true := decide_eq_true c6
       clear c6
       by_cases c7 : x13_1 < (l1.length : Int)
       ·rw [if_pos c7] at H
        have c7b0 : decide (x13_1 < (l1.length : Int)) = true := decide_eq_true c7
        clear c7
        by_cases c8 : (!(((rd_T31 l0 x13_1).f0) == ((rd_T31 l1 x13_1).f0)) || (!(((rd_T31 l0 x13_1).f1) == ((rd_T31 l1 x13_1).f1)))) = true
        ·rw [if_pos c8] at H
         have c8b0 : (!(((rd_T31 l0 x13_1).f0) == ((rd_T31 l1 x13_1).f0)) || (!(((rd_T31 l0 x13_1).f1) == ((rd_T31 l1 x13_1).f1)))) = true := c8
         clear c8
         obtain rfl := Option.some.inj H
         have p267 : 0 ≤ (x13_1 : Int) := of_decide_eq_true (by first | (with_reducible assumption) | assumption)
         have q267 : x13_1 < (l0.length : Int) := of_decide_eq_true (by first | (with_reducible assumption) | assumption)
         obtain ⟨ad267, e267, hx267_0, hx267_1⟩ := at_T31 HR0.out x13_1 p267 q267
         cases e267
         replace p267 := eq_true p267
         replace q267 := eq_true q267
         have p268 : 0 ≤ (x13_1 : Int) := of_decide_eq_true (by first | (with_reducible assumption) | assumption)
         have q268 : x13_1 < (l1.length : Int) := of_decide_eq_true (by first | (with_reducible assumption) | assumption)
         obtain ⟨ad268, e268, hx268_0, hx268_1⟩ := at_T31 HR1.out x13_1 p268 q268
         cases e268
         replace p268 := eq_true p268
         replace q268 := eq_true q268
         go_wp2
         repeat (go_quiet (fail); try go_wp2)
         go_ret
         exact bD
        ·rw [if_neg c8] at H
         have c8b0 : (!(((rd_T31 l0 x13_1).f0) == ((rd_T31 l1 x13_1).f0)) || (!(((rd_T31 l0 x13_1).f1) == ((rd_T31 l1 x13_1).f1)))) = false := by simpa using c8
         clear c8
         have H' := bA H
         clear H
         have p267 : 0 ≤ (x13_1 : Int) := of_decide_eq_true (by first | (with_reducible assumption) | assumption)
         have q267 : x13_1 < (l0.length : Int) := of_decide_eq_true (by first | (with_reducible assumption) | assumption)
         obtain ⟨ad267, e267, hx267_0, hx267_1⟩ := at_T31 HR0.out x13_1 p267 q267
         cases e267
         replace p267 := eq_true p267
         replace q267 := eq_true q267
         have p268 : 0 ≤ (x13_1 : Int) := of_decide_eq_true (by first | (with_reducible assumption) | assumption)
         have q268 : x13_1 < (l1.length : Int) := of_decide_eq_true (by first | (with_reducible assumption) | assumption)
         obtain ⟨ad268, e268, hx268_0, hx268_1⟩ := at_T31 HR1.out x13_1 p268 q268
         cases e268
         replace p268 := eq_true p268
         replace q268 := eq_true q268
         go_wp2
         repeat (go_quiet (fail); try go_wp2)
         go_roundg k1
         case measure => have := HK1.out; omega
         case rel => exact ⟨(wrap64 (x13_1 + 1)), (by first | rfl | (simp; done) | (simp [*]; done)), H', ⟨by have := HK1.out; omega⟩, by repeat (first | exact Drawn0.refl _ | apply Drawn0.step)⟩
       ·rw [if_neg c7] at H
        exact absurd H (by simp)
      ·rw [if_neg c6] at H
       exact absurd H (by simp)
     ·rw [if_neg c5] at H
      exact absurd H (by simp)
    ·rw [if_neg c4] at H
     have c4b0 : decide (x13_1 < (l0.length : Int)) = false := decide_eq_false c4
     clear c4
     obtain rfl := Option.some.inj H
     go_wp2
     repeat (go_quiet (fail); try go_wp2)
     go_ret
     exact bD
 ·rw [if_neg c3] at H
  have c3b0 : ((l0.length : Int) == (l1.length : Int)) = false := beq_eq_false_iff_ne.mpr c3
  have c3b1 : ((l0.length : Int) != (l1.length : Int)) = true := bne_iff_ne.mpr c3
  have c3b2 : (l0.length == l1.length) = false := by first | simpa using c3 | (simp at c3 ⊢; omega)
  obtain rfl := Option.some.inj H
  go_enter Try.func55, Try.ntmps55
  go_wp2
  repeat (go_quiet (fail); try go_wp2)
  go_ret
  exact bD
end Go.Proofs.Ytlifeghjcgbfnaa.G
