-- Written by a program of this session out of the translation; Lean checks it.
import Derived.Test.YtjmibjmlihmglaaGx0
import Derived.Test.YtjmibjmlihmglaaGx6
import Derived.Test.YtjmibjmlihmglaaGx7
import Derived.Test.YtjmibjmlihmglaaGx8
import Derived.Test.YtjmibjmlihmglaaGx11
namespace Go.Proofs.Ytjmibjmlihmglaa.G
open Go.RowKit Go.Proofs.YtjmibjmlihmglaaW.PrintWords Go.Proofs.YtjmibjmlihmglaaW.PrintLast Go.Proofs.YtjmibjmlihmglaaW.PrintMore
attribute [local go_sem] max2_int min2_int max_two min_two max_three min_three max_four min_four   -- for this text's walks alone
set_option linter.unusedVariables false
set_option linter.unusedSimpArgs false

/-! ### point_Move: function 101 -/
def point_Move.f (k : Nat) (a0_0 : Int) (a0_1 : Int) (a1 : Int) (a2 : Int) : Option (Int × Int × Bool) := (fix_Add.f a0_0 a1).bind fun bt231 => ((fix_Add.f a0_1 a2).bind fun bt233 => (if bt231.2 = true then (if bt233.2 = true then ((point_right.f k (([(⟨a0_0, a0_1⟩ : S41), (⟨bt231.1, bt233.1⟩ : S41)] : List (S41)))).bind fun t239 => (if t239 = true then (some (bt231.1, bt233.1, true)) else (some (0, 0, false)))) else (some (0, 0, false))) else (some (0, 0, false))))
theorem point_Move.mono : ∀ a0 a1 a2 a3 k, LeO (point_Move.f k a0 a1 a2 a3) (point_Move.f (k + 1) a0 a1 a2 a3) := by
 intro a0 a1 a2 a3 k
 unfold point_Move.f
 repeat' first
   | (with_reducible exact point_right.mono _ _)
   | (with_reducible exact LeO.refl _)
   | (with_reducible exact LeO.none _)
   | (with_reducible refine LeO.ite ?_ ?_)
   | (with_reducible refine LeO.bind ?_ (fun _ => ?_))
   | exact point_right.mono _ _
   | exact LeO.none _
   | refine LeO.ite ?_ ?_
   | refine LeO.bind ?_ (fun _ => ?_)
set_option maxHeartbeats 8000000 in
set_option maxRecDepth 100000 in
theorem point_Move.calls (k : Nat) (a0_0 : Int) (a0_1 : Int) (a1 : Int) (a2 : Int) (r1 : Int) (r2 : Int) (r3 : Bool) (w : World) (h : point_Move.f k a0_0 a0_1 a1 a2 = some (r1, r2, r3)) :
  Calls Try.prog 101 #[.agg #[.int .i64 a0_0, .int .i64 a0_1], .int .i64 a1, .int .i64 a2] w fun e w' => e = .returned (.tuple #[.agg #[.int .i64 r1, .int .i64 r2], .bool r3]) ∧ Below w.heap.size w w' := by
 have hu41 := Try.underlying41
 have HB := bA (Below.refl w.heap.size w)
 have H : ((fix_Add.f a0_0 a1).bind fun bt231 => ((fix_Add.f a0_1 a2).bind fun bt233 => (if bt231.2 = true then (if bt233.2 = true then ((point_right.f k (([(⟨a0_0, a0_1⟩ : S41), (⟨bt231.1, bt233.1⟩ : S41)] : List (S41)))).bind fun t239 => (if t239 = true then (some (bt231.1, bt233.1, true)) else (some (0, 0, false)))) else (some (0, 0, false))) else (some (0, 0, false))))) = some (r1, r2, r3) := h
 clear h
 replace H := Option.bind_eq_some_iff.mp H
 obtain ⟨⟨t231, t232⟩, A40, H⟩ := H
 replace H : ((fix_Add.f a0_1 a2).bind fun bt233 => (if t232 = true then (if bt233.2 = true then ((point_right.f k (([(⟨a0_0, a0_1⟩ : S41), (⟨t231, bt233.1⟩ : S41)] : List (S41)))).bind fun t239 => (if t239 = true then (some (t231, bt233.1, true)) else (some (0, 0, false)))) else (some (0, 0, false))) else (some (0, 0, false)))) = some (r1, r2, r3) := H
 have A4 := bA A40
 clear A40
 replace H := Option.bind_eq_some_iff.mp H
 obtain ⟨⟨t233, t234⟩, A50, H⟩ := H
 replace H : (if t232 = true then (if t234 = true then ((point_right.f k (([(⟨a0_0, a0_1⟩ : S41), (⟨t231, t233⟩ : S41)] : List (S41)))).bind fun t239 => (if t239 = true then (some (t231, t233, true)) else (some (0, 0, false)))) else (some (0, 0, false))) else (some (0, 0, false))) = some (r1, r2, r3) := H
 have A5 := bA A50
 clear A50
 by_cases c6 : t232 = true
 subst c6
 rw [if_pos rfl] at H
 by_cases c7 : t234 = true
 subst c7
 rw [if_pos rfl] at H
 obtain ⟨y236, hy236⟩ : ∃ y_ : List (S41), y_ = (([(⟨a0_0, a0_1⟩ : S41), (⟨t231, t233⟩ : S41)] : List (S41))) := ⟨_, rfl⟩
 replace H : ((point_right.f k y236).bind fun t239 => (if t239 = true then (some (t231, t233, true)) else (some (0, 0, false)))) = some (r1, r2, r3) := by first | (rw [hy236]; with_reducible exact H) | (have H2_ := (Option.bind_some _ _).symm.trans H; rw [hy236]; with_reducible exact H2_) | (have H2_ := (Option.bind_some _ _).symm.trans H; with_reducible exact H2_) | with_reducible exact H | (rw [hy236]; exact H) | exact H
 have Ny236 := bA hy236
 clear hy236
 replace H := Option.bind_eq_some_iff.mp H
 obtain ⟨t239, A80, H⟩ := H
 have A8 := bA A80
 clear A80
 by_cases c9 : t239 = true
 subst c9
 rw [if_pos rfl] at H
 simp only [Option.some.injEq, Prod.mk.injEq] at H
 obtain ⟨rfl, rfl, rfl⟩ := H
 rotate_left
 replace c9 := Bool.eq_false_iff.mpr c9
 subst c9
 rw [if_neg bn] at H
 simp only [Option.some.injEq, Prod.mk.injEq] at H
 obtain ⟨rfl, rfl, rfl⟩ := H
 rotate_left
 replace c7 := Bool.eq_false_iff.mpr c7
 subst c7
 rw [if_neg bn] at H
 simp only [Option.some.injEq, Prod.mk.injEq] at H
 obtain ⟨rfl, rfl, rfl⟩ := H
 rotate_left
 replace c6 := Bool.eq_false_iff.mpr c6
 subst c6
 rw [if_neg bn] at H
 simp only [Option.some.injEq, Prod.mk.injEq] at H
 obtain ⟨rfl, rfl, rfl⟩ := H
 rotate_left
 all_goals go_enter Try.func101, Try.ntmps101
 all_goals go_wp2_with (first | ((with_reducible refine gate_dst (N := 3) rfl ?_); (try (refine gate_guard (by rfl) ?_; dsimp only)); refine bE (N := 3) (cs := #[.int .i64 a0_0, .int .i64 a0_1]) (t := 41) ?_; intro gb229 hg wz0 hbox hb; have BK229 := bA (hbox); have GW229 := bA (bZ hg); have GE229 := bA (bZ hg); replace HB := bA (bS hb); clear hb hbox hg) | ((with_reducible refine gate_dst (N := 6) rfl ?_); (try (refine gate_guard (by rfl) ?_; dsimp only)); refine bE (N := 6) (cs := #[.int .i64 0, .int .i64 0]) (t := 41) ?_; intro gb230 hg wz1 hbox hb; have BK230 := bA (hbox); have GW230 := bA (bZ hg); have GE230 := bA (bZ hg); have NB229_230 := bA (bL BK229 hg); have NB230_229 := bA (bG BK229 hg); replace BK229 := bA (bB BK229 hb); replace HB := bA (bS hb); clear hb hbox hg; have hz1 := NB229_230.out; have hz2 := NB230_229.out; obtain ⟨hz3, hz4, hz5, hz6⟩ := bc2 BK229) | ((first | ((with_reducible refine gate_callee (f := 114) rfl ?_); refine bC (some 17) Try.func114 #[.int .i64 a0_0, .int .i64 a1] ?_) | go_at_call 114); (with_reducible refine (fix_Add.calls a0_0 a1 t231 true _ A4.out).mono ?_); rintro e wz2 ⟨rfl, hb⟩; (first | refine ⟨_, rfl, ?_⟩ | skip); replace BK229 := bA (bB BK229 hb); replace BK230 := bA (bB BK230 hb); replace HB := bA (bS hb); (try clear hb); obtain ⟨hz7, hz8, hz5, hz6⟩ := bc2 BK229) | ((first | ((with_reducible refine gate_callee (f := 114) rfl ?_); refine bC (some 24) Try.func114 #[.int .i64 a0_1, .int .i64 a2] ?_) | go_at_call 114); (with_reducible refine (fix_Add.calls a0_1 a2 t233 true _ A5.out).mono ?_); rintro e wz3 ⟨rfl, hb⟩; (first | refine ⟨_, rfl, ?_⟩ | skip); replace BK229 := bA (bB BK229 hb); replace BK230 := bA (bB BK230 hb); replace HB := bA (bS hb); (try clear hb)) | ((with_reducible refine gate_dst (N := 12) rfl ?_); (try (refine gate_guard (by rfl) ?_; dsimp only)); refine bE (N := 12) (cs := #[.int .i64 0, .int .i64 0]) (t := 41) ?_; intro gb235 hg wz4 hbox hb; have BK235 := bA (hbox); have GW235 := bA (bZ hg); have GE235 := bA (bZ hg); have NB229_235 := bA (bL BK229 hg); have NB235_229 := bA (bG BK229 hg); have NB230_235 := bA (bL BK230 hg); have NB235_230 := bA (bG BK230 hg); replace BK229 := bA (bB BK229 hb); replace BK230 := bA (bB BK230 hb); replace HB := bA (bS hb); clear hb hbox hg; have hz9 := NB235_229.out; have hz10 := NB229_235.out; have hz11 := NB235_230.out; have hz12 := NB230_235.out; obtain ⟨hz13, hz14, hz15, hz16⟩ := bc2 BK235; obtain ⟨hz17, hz18, hz5, hz6⟩ := bc2 BK229; obtain ⟨hz19, hz20, hz21, hz22⟩ := bc2 BK230) | ((with_reducible refine gate_dst (N := 39) rfl ?_); (try (refine gate_guard (by rfl) ?_; dsimp only)); refine Kd.R_lit k41 _ 41 ?hg (N := 39) ?hd (xs := ([(⟨a0_0, a0_1⟩ : S41), (⟨t231, t233⟩ : S41)] : List (S41))) (inner := [.int .i64 a0_0, .int .i64 a0_1, .int .i64 t231, .int .i64 t233]) (ok := fun _ => True) (okp := fun _ => True) ?hr ?hp (fun _ hk => hk) trivial (Below.refl _ _) (Nat.le_refl _) (by simp) ?_; (case hd => rfl); (case hg => rfl); (case hr => first | (go_simp; done) | (go_simp; rfl)); (case hp => exact (Reps.c2 (show Kd.M k41 _ _ _ (⟨a0_0, a0_1⟩ : S41) [.int .i64 a0_0, .int .i64 a0_1] from (k41_mkM _ _ _ (⟨a0_0, a0_1⟩ : S41) )) (Reps.c2 (show Kd.M k41 _ _ _ (⟨t231, t233⟩ : S41) [.int .i64 t231, .int .i64 t233] from (k41_mkM _ _ _ (⟨t231, t233⟩ : S41) )) (Reps.none _ _)))); intro v237 wz5 ho23 hb hg_ hnew_; clear hg_ hnew_; (first | rw [← Ny236.out] at ho23 | (simp only [Int.reduceToNat] at ho23; rw [← Ny236.out] at ho23)); have HO238 := bA (Kd.R_lower (Kd.R_newB (Kd.R_newB (Kd.R_newB ho23 (g := gb229) (o := .cells #[.int .i64 a0_0, .int .i64 a0_1] 41 (0, 0)) (by (repeat ((with_reducible repeat (first | refine blk_drewN ?_ _ | refine blk_drew ?_ | refine blk_alloc ?_ _)); refine blk_far ?_ NB229_235.out _)); (with_reducible repeat (first | refine blk_drewN ?_ _ | refine blk_drew ?_ | refine blk_alloc ?_ _)); exact BK229.out)) (g := gb230) (o := .cells #[.int .i64 0, .int .i64 0] 41 (0, 0)) (by (repeat ((with_reducible repeat (first | refine blk_drewN ?_ _ | refine blk_drew ?_ | refine blk_alloc ?_ _)); refine blk_far ?_ NB230_235.out _)); (with_reducible repeat (first | refine blk_drewN ?_ _ | refine blk_drew ?_ | refine blk_alloc ?_ _)); exact BK230.out)) (g := gb235) (o := .cells #[.int .i64 t231, .int .i64 t233] 41 (0, 0)) (by (with_reducible repeat (first | refine blk_drewN ?_ _ | refine blk_drew ?_ | refine blk_alloc ?_ _)); refine blk_put (cs := #[.int .i64 t231, .int .i64 0]) ?_ 1 _ rfl; (with_reducible repeat (first | refine blk_drewN ?_ _ | refine blk_drew ?_ | refine blk_alloc ?_ _)); refine blk_put (cs := #[.int .i64 0, .int .i64 0]) ?_ 0 _ rfl; (with_reducible repeat (first | refine blk_drewN ?_ _ | refine blk_drew ?_ | refine blk_alloc ?_ _)); exact BK235.out)) bY); replace BK229 := bA (blk_below (g := gb229) (o := .cells #[.int .i64 a0_0, .int .i64 a0_1] 41 (0, 0)) (by (repeat ((with_reducible repeat (first | refine blk_drewN ?_ _ | refine blk_drew ?_ | refine blk_alloc ?_ _)); refine blk_far ?_ NB229_235.out _)); (with_reducible repeat (first | refine blk_drewN ?_ _ | refine blk_drew ?_ | refine blk_alloc ?_ _)); exact BK229.out) hb); replace BK230 := bA (blk_below (g := gb230) (o := .cells #[.int .i64 0, .int .i64 0] 41 (0, 0)) (by (repeat ((with_reducible repeat (first | refine blk_drewN ?_ _ | refine blk_drew ?_ | refine blk_alloc ?_ _)); refine blk_far ?_ NB230_235.out _)); (with_reducible repeat (first | refine blk_drewN ?_ _ | refine blk_drew ?_ | refine blk_alloc ?_ _)); exact BK230.out) hb); replace BK235 := bA (blk_below (g := gb235) (o := .cells #[.int .i64 t231, .int .i64 t233] 41 (0, 0)) (by (with_reducible repeat (first | refine blk_drewN ?_ _ | refine blk_drew ?_ | refine blk_alloc ?_ _)); refine blk_put (cs := #[.int .i64 t231, .int .i64 0]) ?_ 1 _ rfl; (with_reducible repeat (first | refine blk_drewN ?_ _ | refine blk_drew ?_ | refine blk_alloc ?_ _)); refine blk_put (cs := #[.int .i64 0, .int .i64 0]) ?_ 0 _ rfl; (with_reducible repeat (first | refine blk_drewN ?_ _ | refine blk_drew ?_ | refine blk_alloc ?_ _)); exact BK235.out) hb); replace HB := bA (bS hb); clear hb ho23; obtain ⟨Aoz6, coz7, eoz8⟩ := Kd.R_slice HO238.out; subst eoz8) | (go_at_call 85; (with_reducible refine (point_right.calls k _ _ y236 true _ ?side1 ?side2 A8.out).mono ?_); (case side1 => repeat (first | exact (Kd.R_reads' HO238.out).2.2 | (with_reducible refine Kd.C_alloc ?_ _) | (with_reducible refine Kd.C_drewN ?_ _) | (with_reducible refine Kd.C_drew ?_))); (case side2 => exact (Kd.R_reads' HO238.out).2.1); rintro e wz9 ⟨rfl, hb⟩; replace HO238 := bA (Kd.R_below (bRr HO238) hb); replace BK229 := bA (bB BK229 hb); replace BK230 := bA (bB BK230 hb); replace BK235 := bA (bB BK235 hb); replace HB := bA (bS hb); (try clear hb); obtain ⟨hz23, hz24, hz15, hz16⟩ := bc2 BK235; obtain ⟨hz25, hz26, hz21, hz22⟩ := bc2 BK230) | ((with_reducible refine gate_dst (N := 39) rfl ?_); (try (refine gate_guard (by rfl) ?_; dsimp only)); refine Kd.R_lit k41 _ 41 ?hg (N := 39) ?hd (xs := ([(⟨a0_0, a0_1⟩ : S41), (⟨t231, t233⟩ : S41)] : List (S41))) (inner := [.int .i64 a0_0, .int .i64 a0_1, .int .i64 t231, .int .i64 t233]) (ok := fun _ => True) (okp := fun _ => True) ?hr ?hp (fun _ hk => hk) trivial (Below.refl _ _) (Nat.le_refl _) (by simp) ?_; (case hd => rfl); (case hg => rfl); (case hr => first | (go_simp; done) | (go_simp; rfl)); (case hp => exact (Reps.c2 (show Kd.M k41 _ _ _ (⟨a0_0, a0_1⟩ : S41) [.int .i64 a0_0, .int .i64 a0_1] from (k41_mkM _ _ _ (⟨a0_0, a0_1⟩ : S41) )) (Reps.c2 (show Kd.M k41 _ _ _ (⟨t231, t233⟩ : S41) [.int .i64 t231, .int .i64 t233] from (k41_mkM _ _ _ (⟨t231, t233⟩ : S41) )) (Reps.none _ _)))); intro v237 wz5 ho41 hb hg_ hnew_; clear hg_ hnew_; (first | rw [← Ny236.out] at ho41 | (simp only [Int.reduceToNat] at ho41; rw [← Ny236.out] at ho41)); have HO238 := bA (Kd.R_lower (Kd.R_newB (Kd.R_newB (Kd.R_newB ho41 (g := gb229) (o := .cells #[.int .i64 a0_0, .int .i64 a0_1] 41 (0, 0)) (by (repeat ((with_reducible repeat (first | refine blk_drewN ?_ _ | refine blk_drew ?_ | refine blk_alloc ?_ _)); refine blk_far ?_ NB229_235.out _)); (with_reducible repeat (first | refine blk_drewN ?_ _ | refine blk_drew ?_ | refine blk_alloc ?_ _)); exact BK229.out)) (g := gb230) (o := .cells #[.int .i64 0, .int .i64 0] 41 (0, 0)) (by (repeat ((with_reducible repeat (first | refine blk_drewN ?_ _ | refine blk_drew ?_ | refine blk_alloc ?_ _)); refine blk_far ?_ NB230_235.out _)); (with_reducible repeat (first | refine blk_drewN ?_ _ | refine blk_drew ?_ | refine blk_alloc ?_ _)); exact BK230.out)) (g := gb235) (o := .cells #[.int .i64 t231, .int .i64 t233] 41 (0, 0)) (by (with_reducible repeat (first | refine blk_drewN ?_ _ | refine blk_drew ?_ | refine blk_alloc ?_ _)); refine blk_put (cs := #[.int .i64 t231, .int .i64 0]) ?_ 1 _ rfl; (with_reducible repeat (first | refine blk_drewN ?_ _ | refine blk_drew ?_ | refine blk_alloc ?_ _)); refine blk_put (cs := #[.int .i64 0, .int .i64 0]) ?_ 0 _ rfl; (with_reducible repeat (first | refine blk_drewN ?_ _ | refine blk_drew ?_ | refine blk_alloc ?_ _)); exact BK235.out)) bY); replace BK229 := bA (blk_below (g := gb229) (o := .cells #[.int .i64 a0_0, .int .i64 a0_1] 41 (0, 0)) (by (repeat ((with_reducible repeat (first | refine blk_drewN ?_ _ | refine blk_drew ?_ | refine blk_alloc ?_ _)); refine blk_far ?_ NB229_235.out _)); (with_reducible repeat (first | refine blk_drewN ?_ _ | refine blk_drew ?_ | refine blk_alloc ?_ _)); exact BK229.out) hb); replace BK230 := bA (blk_below (g := gb230) (o := .cells #[.int .i64 0, .int .i64 0] 41 (0, 0)) (by (repeat ((with_reducible repeat (first | refine blk_drewN ?_ _ | refine blk_drew ?_ | refine blk_alloc ?_ _)); refine blk_far ?_ NB230_235.out _)); (with_reducible repeat (first | refine blk_drewN ?_ _ | refine blk_drew ?_ | refine blk_alloc ?_ _)); exact BK230.out) hb); replace BK235 := bA (blk_below (g := gb235) (o := .cells #[.int .i64 t231, .int .i64 t233] 41 (0, 0)) (by (with_reducible repeat (first | refine blk_drewN ?_ _ | refine blk_drew ?_ | refine blk_alloc ?_ _)); refine blk_put (cs := #[.int .i64 t231, .int .i64 0]) ?_ 1 _ rfl; (with_reducible repeat (first | refine blk_drewN ?_ _ | refine blk_drew ?_ | refine blk_alloc ?_ _)); refine blk_put (cs := #[.int .i64 0, .int .i64 0]) ?_ 0 _ rfl; (with_reducible repeat (first | refine blk_drewN ?_ _ | refine blk_drew ?_ | refine blk_alloc ?_ _)); exact BK235.out) hb); replace HB := bA (bS hb); clear hb ho41; obtain ⟨Aoz6, coz7, eoz8⟩ := Kd.R_slice HO238.out; subst eoz8) | (go_at_call 85; (with_reducible refine (point_right.calls k _ _ y236 false _ ?side1 ?side2 A8.out).mono ?_); (case side1 => repeat (first | exact (Kd.R_reads' HO238.out).2.2 | (with_reducible refine Kd.C_alloc ?_ _) | (with_reducible refine Kd.C_drewN ?_ _) | (with_reducible refine Kd.C_drew ?_))); (case side2 => exact (Kd.R_reads' HO238.out).2.1); rintro e wz9 ⟨rfl, hb⟩; replace HO238 := bA (Kd.R_below (bRr HO238) hb); replace BK229 := bA (bB BK229 hb); replace BK230 := bA (bB BK230 hb); replace BK235 := bA (bB BK235 hb); replace HB := bA (bS hb); (try clear hb); obtain ⟨hz25, hz26, hz21, hz22⟩ := bc2 BK230) | ((first | ((with_reducible refine gate_callee (f := 114) rfl ?_); refine bC (some 24) Try.func114 #[.int .i64 a0_1, .int .i64 a2] ?_) | go_at_call 114); (with_reducible refine (fix_Add.calls a0_1 a2 t233 false _ A5.out).mono ?_); rintro e wz3 ⟨rfl, hb⟩; (first | refine ⟨_, rfl, ?_⟩ | skip); replace BK229 := bA (bB BK229 hb); replace BK230 := bA (bB BK230 hb); replace HB := bA (bS hb); (try clear hb)) | ((first | ((with_reducible refine gate_callee (f := 114) rfl ?_); refine bC (some 17) Try.func114 #[.int .i64 a0_0, .int .i64 a1] ?_) | go_at_call 114); (with_reducible refine (fix_Add.calls a0_0 a1 t231 false _ A4.out).mono ?_); rintro e wz2 ⟨rfl, hb⟩; (first | refine ⟨_, rfl, ?_⟩ | skip); replace BK229 := bA (bB BK229 hb); replace BK230 := bA (bB BK230 hb); replace HB := bA (bS hb); (try clear hb); obtain ⟨hz7, hz8, hz5, hz6⟩ := bc2 BK229) | ((first | ((with_reducible refine gate_callee (f := 114) rfl ?_); refine bC (some 24) Try.func114 #[.int .i64 a0_1, .int .i64 a2] ?_) | go_at_call 114); (with_reducible refine (fix_Add.calls a0_1 a2 t233 t234 _ A5.out).mono ?_); rintro e wz3 ⟨rfl, hb⟩; (first | refine ⟨_, rfl, ?_⟩ | skip); replace BK229 := bA (bB BK229 hb); replace BK230 := bA (bB BK230 hb); replace HB := bA (bS hb); (try clear hb)))
 ·refine bodyPost_ret (results_ct rfl _ _ gb230 41 #[.int .i64 t231, .int .i64 t233] (0, 0) _ rfl (by (with_reducible repeat (first | refine blk_drewN ?_ _ | refine blk_drew ?_ | refine blk_alloc ?_ _)); refine blk_put (cs := #[.int .i64 t231, .int .i64 0]) ?_ 1 _ rfl; (with_reducible repeat (first | refine blk_drewN ?_ _ | refine blk_drew ?_ | refine blk_alloc ?_ _)); refine blk_put (cs := #[.int .i64 0, .int .i64 0]) ?_ 0 _ rfl; (with_reducible repeat (first | refine blk_drewN ?_ _ | refine blk_drew ?_ | refine blk_alloc ?_ _)); exact BK230.out) Try.underlying41 rfl (by kernel_rfl)) rfl ?_
  exact bF
 ·refine bodyPost_ret (results_ct rfl _ _ gb230 41 #[.int .i64 0, .int .i64 0] (0, 0) _ rfl (by (with_reducible repeat (first | refine blk_drewN ?_ _ | refine blk_drew ?_ | refine blk_alloc ?_ _)); refine blk_put (cs := #[.int .i64 0, .int .i64 0]) ?_ 1 _ rfl; (with_reducible repeat (first | refine blk_drewN ?_ _ | refine blk_drew ?_ | refine blk_alloc ?_ _)); refine blk_put (cs := #[.int .i64 0, .int .i64 0]) ?_ 0 _ rfl; (with_reducible repeat (first | refine blk_drewN ?_ _ | refine blk_drew ?_ | refine blk_alloc ?_ _)); exact BK230.out) Try.underlying41 rfl (by kernel_rfl)) rfl ?_
  exact bF
 ·refine bodyPost_ret (results_ct rfl _ _ gb230 41 #[.int .i64 0, .int .i64 0] (0, 0) _ rfl (by (with_reducible repeat (first | refine blk_drewN ?_ _ | refine blk_drew ?_ | refine blk_alloc ?_ _)); refine blk_put (cs := #[.int .i64 0, .int .i64 0]) ?_ 1 _ rfl; (with_reducible repeat (first | refine blk_drewN ?_ _ | refine blk_drew ?_ | refine blk_alloc ?_ _)); refine blk_put (cs := #[.int .i64 0, .int .i64 0]) ?_ 0 _ rfl; (repeat ((with_reducible repeat (first | refine blk_drewN ?_ _ | refine blk_drew ?_ | refine blk_alloc ?_ _)); refine blk_far ?_ NB230_235.out _)); (with_reducible repeat (first | refine blk_drewN ?_ _ | refine blk_drew ?_ | refine blk_alloc ?_ _)); exact BK230.out) Try.underlying41 rfl (by kernel_rfl)) rfl ?_
  exact bF
 refine bodyPost_ret (results_ct rfl _ _ gb230 41 #[.int .i64 0, .int .i64 0] (0, 0) _ rfl (by (with_reducible repeat (first | refine blk_drewN ?_ _ | refine blk_drew ?_ | refine blk_alloc ?_ _)); refine blk_put (cs := #[.int .i64 0, .int .i64 0]) ?_ 1 _ rfl; (with_reducible repeat (first | refine blk_drewN ?_ _ | refine blk_drew ?_ | refine blk_alloc ?_ _)); refine blk_put (cs := #[.int .i64 0, .int .i64 0]) ?_ 0 _ rfl; (repeat ((with_reducible repeat (first | refine blk_drewN ?_ _ | refine blk_drew ?_ | refine blk_alloc ?_ _)); refine blk_far ?_ NB230_235.out _)); (with_reducible repeat (first | refine blk_drewN ?_ _ | refine blk_drew ?_ | refine blk_alloc ?_ _)); exact BK230.out) Try.underlying41 rfl (by kernel_rfl)) rfl ?_
 exact bF
/-! ### poly_Move: function 64 -/
def poly_Move.l0 : Nat → List (S41) → Int → Int → List (S41) → List (S41) → Int → Int → Option ((List (S41)) × Bool)
 | 0, _, _, _, _, _, _, _ => none
 | k + 1, x0, x1, x2, x6, x12, x13, x14 => if x14 < x13 then (if 0 ≤ x14 then (if x14 < (x12.length : Int) then ((point_Move.f k ((rd_T41 x12 x14).f0) ((rd_T41 x12 x14).f1) x1 x2).bind fun bt242 => (if bt242.2.2 = true then (if x6.length < 8796093022208 then (poly_Move.l0 k x0 x1 x2 (x6 ++ [(⟨bt242.1, bt242.2.1⟩ : S41)]) x12 x13 (wrap64 (x14 + 1))) else (none)) else (some (([] : List (S41)), false)))) else (none)) else (none)) else ((poly_Right.f k x0).bind fun t249 => (if t249 = true then ((poly_Right.f k x6).bind fun t250 => (if t250 = true then (some (x6, true)) else (some (([] : List (S41)), false)))) else (some (([] : List (S41)), false))))
def poly_Move.f (k : Nat) (l0 : List (S41)) (a1 : Int) (a2 : Int) : Option ((List (S41)) × Bool) := poly_Move.l0 k l0 a1 a2 ([] : List (S41)) l0 (l0.length : Int) 0
theorem poly_Move.mono_l : ∀ k, (∀ y0 y1 y2 y3 y4 y5 y6, LeO (poly_Move.l0 k y0 y1 y2 y3 y4 y5 y6) (poly_Move.l0 (k + 1) y0 y1 y2 y3 y4 y5 y6))
 | 0 => fun _ _ _ _ _ _ _ r h => by simp [poly_Move.l0] at h
 | k + 1 => by
  have ih0 := poly_Move.mono_l k
  ·intro y0 y1 y2 y3 y4 y5 y6
   unfold poly_Move.l0
   repeat' first
   | (with_reducible exact ih0 _ _ _ _ _ _ _)
   | (with_reducible exact point_Move.mono _ _ _ _ _)
   | (with_reducible exact poly_Right.mono _ _)
   | (with_reducible exact LeO.refl _)
   | (with_reducible exact LeO.none _)
   | (with_reducible refine LeO.ite ?_ ?_)
   | (with_reducible refine LeO.bind ?_ (fun _ => ?_))
   | exact ih0 _ _ _ _ _ _ _
   | exact point_Move.mono _ _ _ _ _
   | exact poly_Right.mono _ _
   | exact LeO.none _
   | refine LeO.ite ?_ ?_
   | refine LeO.bind ?_ (fun _ => ?_)
theorem poly_Move.mono : ∀ a0 a1 a2 k, LeO (poly_Move.f k a0 a1 a2) (poly_Move.f (k + 1) a0 a1 a2) := by
 intro a0 a1 a2 k
 have ih0 := poly_Move.mono_l k
 unfold poly_Move.f
 repeat' first
   | (with_reducible exact ih0 _ _ _ _ _ _ _)
   | (with_reducible exact point_Move.mono _ _ _ _ _)
   | (with_reducible exact poly_Right.mono _ _)
   | (with_reducible exact LeO.refl _)
   | (with_reducible exact LeO.none _)
   | (with_reducible refine LeO.ite ?_ ?_)
   | (with_reducible refine LeO.bind ?_ (fun _ => ?_))
   | exact ih0 _ _ _ _ _ _ _
   | exact point_Move.mono _ _ _ _ _
   | exact poly_Right.mono _ _
   | exact LeO.none _
   | refine LeO.ite ?_ ?_
   | refine LeO.bind ?_ (fun _ => ?_)
set_option maxHeartbeats 8000000 in
set_option maxRecDepth 100000 in
theorem poly_Move.calls (k : Nat) (A0 : Option Addr) (c0 : Nat) (l0 : List (S41)) (a1 : Int) (a2 : Int) (r1 : List (S41)) (r2 : Bool) (w : World) (hr0 : Kd.C k41 w A0 l0.length l0) (hc0 : l0.length ≤ c0) (h : poly_Move.f k l0 a1 a2 = some (r1, r2)) :
  Calls Try.prog 64 #[.slice A0 l0.length c0, .int .i64 a1, .int .i64 a2] w fun e w' => ∃ v0_ : Value, e = .returned (.tuple #[v0_, .bool r2]) ∧ Kd.R k41 41 w' w.heap.size (fun _ => True) v0_ r1 ∧ Below w.heap.size w w' := by
 have hu41 := Try.underlying41
 have HR0 := bA hr0
 have HC0 := bA hc0
 clear hr0 hc0
 have HB := bA (Below.refl w.heap.size w)
 have H : (poly_Move.l0 k l0 a1 a2 ([] : List (S41)) l0 (l0.length : Int) 0) = some (r1, r2) := h
 clear h
 have H' := bA H
 clear H
 go_enter Try.func64, Try.ntmps64
 go_wp2
 go_loopg [6, 14] k (fun kq v6 v14 w' => ∃ (x6_1 : List (S41)) (x14_1 : Int), v14 = .int .i64 x14_1 ∧ Aside0 (poly_Move.l0 kq l0 a1 a2 x6_1 l0 (l0.length : Int) x14_1 = some (r1, r2)) ∧ Aside0 (kq ≤ k) ∧ Aside0 (Kd.R k41 41 w' w.heap.size (fun _ => True) v6 x6_1) ∧ Aside0 (Below w.heap.size w w'))
 case atStart => exact ⟨(([] : List (S41))), (0), bs, H', ⟨Nat.le_refl _⟩, ⟨by first | exact Kd.R_nil _ _ _ _ _ | exact Kd.N_nil _ _ _ _ _ | exact Kd.V_nil _ _ _ _ _ | exact Kd.Q_nil _ _ _ _ _ | exact Kd.S_nil _ _ _ _ _⟩, ⟨bX⟩⟩
 clear H'
 try clear p2
 obtain ⟨x6_1, x14_1, rfl, HA, HK1, HO_6, HB⟩ := hrel
 cases gk with
 | zero => exact absurd HA.out (by simp [poly_Move.l0])
 | succ k1 =>
  have H := HA.out
  clear HA
  simp only [poly_Move.l0] at H
  by_cases c4 : x14_1 < (l0.length : Int)
  rw [if_pos c4] at H
  have c4b0 : decide (x14_1 < (l0.length : Int)) = true := decide_eq_true c4
  clear c4
  by_cases c5 : 0 ≤ x14_1
  rw [if_pos c5] at H
  have c5b0 : decide (0 ≤ x14_1) = true := decide_eq_true c5
  clear c5
  by_cases c6 : x14_1 < (l0.length : Int)
  rw [if_pos c6] at H
  have c6b0 : decide (x14_1 < (l0.length : Int)) = true := decide_eq_true c6
  clear c6
  replace H := Option.bind_eq_some_iff.mp H
  obtain ⟨⟨t242, t243, t244⟩, A70, H⟩ := H
  replace H : (if t244 = true then (if x6_1.length < 8796093022208 then (poly_Move.l0 k1 l0 a1 a2 (x6_1 ++ [(⟨t242, t243⟩ : S41)]) l0 (l0.length : Int) (wrap64 (x14_1 + 1))) else (none)) else (some (([] : List (S41)), false))) = some (r1, r2) := H
  have A7 := bA A70
  clear A70
  by_cases c8 : t244 = true
  subst c8
  rw [if_pos rfl] at H
  by_cases c9 : x6_1.length < 8796093022208
  rw [if_pos c9] at H
  have LMc9 := bA c9
  clear c9
  obtain ⟨y246, hy246⟩ : ∃ y_ : List (S41), y_ = (x6_1 ++ [(⟨t242, t243⟩ : S41)]) := ⟨_, rfl⟩
  replace H : (poly_Move.l0 k1 l0 a1 a2 y246 l0 (l0.length : Int) (wrap64 (x14_1 + 1))) = some (r1, r2) := by first | (rw [hy246]; with_reducible exact H) | (have H2_ := (Option.bind_some _ _).symm.trans H; rw [hy246]; with_reducible exact H2_) | (have H2_ := (Option.bind_some _ _).symm.trans H; with_reducible exact H2_) | with_reducible exact H | (rw [hy246]; exact H) | exact H
  have Ny246 := bA hy246
  clear hy246
  have H' := bA H
  clear H
  have p240 : 0 ≤ (x14_1 : Int) := bo
  have q240 : x14_1 < (l0.length : Int) := bo
  obtain ⟨ad240, e240, hx240_0, hx240_1⟩ := at_T41 HR0.out x14_1 p240 q240
  cases e240
  replace hx240_0 := bK hx240_0
  replace hx240_1 := bK hx240_1
  replace p240 := eq_true p240
  replace q240 := eq_true q240
  rotate_left
  rw [if_neg c9] at H
  exact absurd H (by simp)
  replace c8 := Bool.eq_false_iff.mpr c8
  subst c8
  rw [if_neg bn] at H
  simp only [Option.some.injEq, Prod.mk.injEq] at H
  obtain ⟨rfl, rfl⟩ := H
  have p240 : 0 ≤ (x14_1 : Int) := bo
  have q240 : x14_1 < (l0.length : Int) := bo
  obtain ⟨ad240, e240, hx240_0, hx240_1⟩ := at_T41 HR0.out x14_1 p240 q240
  cases e240
  replace hx240_0 := bK hx240_0
  replace hx240_1 := bK hx240_1
  replace p240 := eq_true p240
  replace q240 := eq_true q240
  rotate_left
  rw [if_neg c6] at H
  exact absurd H (by simp)
  rw [if_neg c5] at H
  exact absurd H (by simp)
  rw [if_neg c4] at H
  have c4b0 : decide (x14_1 < (l0.length : Int)) = false := decide_eq_false c4
  clear c4
  replace H := Option.bind_eq_some_iff.mp H
  obtain ⟨t249, A230, H⟩ := H
  have A23 := bA A230
  clear A230
  by_cases c24 : t249 = true
  subst c24
  rw [if_pos rfl] at H
  replace H := Option.bind_eq_some_iff.mp H
  obtain ⟨t250, A250, H⟩ := H
  have A25 := bA A250
  clear A250
  by_cases c26 : t250 = true
  subst c26
  rw [if_pos rfl] at H
  simp only [Option.some.injEq, Prod.mk.injEq] at H
  obtain ⟨rfl, rfl⟩ := H
  rotate_left
  replace c26 := Bool.eq_false_iff.mpr c26
  subst c26
  rw [if_neg bn] at H
  simp only [Option.some.injEq, Prod.mk.injEq] at H
  obtain ⟨rfl, rfl⟩ := H
  rotate_left
  replace c24 := Bool.eq_false_iff.mpr c24
  subst c24
  rw [if_neg bn] at H
  simp only [Option.some.injEq, Prod.mk.injEq] at H
  obtain ⟨rfl, rfl⟩ := H
  rotate_left
  all_goals go_wp2_with (first | ((with_reducible refine gate_dst (N := 9) rfl ?_); refine bE (N := 9) (cs := #[.int .i64 0, .int .i64 0]) (t := 41) ?_; intro gb241 hg wz0 hbox hb; have BK241 := bA (hbox); have GW241 := bA (bZ hg); have GE241 := bA (bZ hg); replace HO_6 := bA (Kd.R_below (Kd.R_elderB (bRr HO_6) gb241 (Nat.le_of_eq hg.symm)) hb); replace HB := bA (bS hb); clear hb hbox hg; obtain ⟨hz1, hz2, hz3, hz4⟩ := bc2 BK241) | ((first | ((with_reducible refine gate_callee (f := 101) rfl ?_); refine bC (some 22) Try.func101 #[.agg #[.int .i64 ((rd_T41 l0 x14_1).f0), .int .i64 ((rd_T41 l0 x14_1).f1)], .int .i64 a1, .int .i64 a2] ?_) | go_at_call 101); (with_reducible refine (point_Move.calls k1 ((rd_T41 l0 x14_1).f0) ((rd_T41 l0 x14_1).f1) a1 a2 t242 t243 true _ A7.out).mono ?_); rintro e wz1 ⟨rfl, hb⟩; (first | refine ⟨_, rfl, ?_⟩ | skip); replace HO_6 := bA (Kd.R_below (by (with_reducible repeat (first | apply Kd.R_alloc | apply Kd.R_drewN | apply Kd.R_drew)); exact (Kd.R_mono (Kd.R_far (p := ⟨gb241, 1, none⟩) (Kd.R_far (p := ⟨gb241, 0, none⟩) (Kd.R_mono HO_6.out (fun k_ hk => (⟨hk, hk.2⟩ : _ ∧ k_ ≠ gb241))) (fun _ hk => hk.2) (.int .i64 ((rd_T41 l0 x14_1).f0))) (fun _ hk => hk.2) (.int .i64 ((rd_T41 l0 x14_1).f1))) (fun _ h_ => h_.1))) hb); replace BK241 := bA (blk_below (g := gb241) (o := .cells #[.int .i64 ((rd_T41 l0 x14_1).f0), .int .i64 ((rd_T41 l0 x14_1).f1)] 41 (0, 0)) (by (with_reducible repeat (first | refine blk_drewN ?_ _ | refine blk_drew ?_ | refine blk_alloc ?_ _)); refine blk_put (cs := #[.int .i64 ((rd_T41 l0 x14_1).f0), .int .i64 0]) ?_ 1 _ rfl; (with_reducible repeat (first | refine blk_drewN ?_ _ | refine blk_drew ?_ | refine blk_alloc ?_ _)); refine blk_put (cs := #[.int .i64 0, .int .i64 0]) ?_ 0 _ rfl; (with_reducible repeat (first | refine blk_drewN ?_ _ | refine blk_drew ?_ | refine blk_alloc ?_ _)); exact BK241.out) hb); replace HB := bA (bS hb); (try clear hb)) | ((with_reducible refine gate_dst (N := 10) rfl ?_); refine bE (N := 10) (cs := #[.int .i64 0, .int .i64 0]) (t := 41) ?_; intro gb245 hg wz2 hbox hb; have BK245 := bA (hbox); have GW245 := bA (bZ hg); have GE245 := bA (bZ hg); have NB241_245 := bA (bL BK241 hg); have NB245_241 := bA (bG BK241 hg); replace HO_6 := bA (Kd.R_below (Kd.R_elderB (bRr HO_6) gb245 (Nat.le_of_eq hg.symm)) hb); replace BK241 := bA (bB BK241 hb); replace HB := bA (bS hb); clear hb hbox hg; have hz5 := NB245_241.out; have hz6 := NB241_245.out; obtain ⟨hz7, hz8, hz9, hz10⟩ := bc2 BK245) | ((with_reducible refine gate_builtin (b := .append) (xs := #[.tmp 27, .tmp 29]) rfl ?_); at_builtin; refine Kd.R_append k41 (w0 := w) w.heap.size rfl (.tmp 27) (.tmp 29) 28 41 (.agg #[(.int .i64 0), (.int .i64 0)]) 16 rfl Try.underlying28 info41 rfl (by decide) (by omega) u6 x6_1 (⟨t242, t243⟩ : S41) [.int .i64 t242, .int .i64 t243] (fun k_ => k_ ≠ gb241 ∧ k_ ≠ gb245) (fun _ => False) rfl (by first | (go_simp; done) | (go_simp; rfl)) ?aP (fun _ hk => hk.elim) ?aF ?aO ?aB ?aS ?aL ?_; (case aP => exact k41_mkM _ _ _ (⟨t242, t243⟩ : S41)); (case aB => exact bX); (case aF => exact (fun k_ hk => ⟨Kd.freshB (g := gb241) (o := .cells #[.int .i64 ((rd_T41 l0 x14_1).f0), .int .i64 ((rd_T41 l0 x14_1).f1)] 41 (0, 0)) (by (repeat ((with_reducible repeat (first | refine blk_drewN ?_ _ | refine blk_drew ?_ | refine blk_alloc ?_ _)); refine blk_far ?_ NB241_245.out _)); (with_reducible repeat (first | refine blk_drewN ?_ _ | refine blk_drew ?_ | refine blk_alloc ?_ _)); exact BK241.out) k_ hk, Kd.freshB (g := gb245) (o := .cells #[.int .i64 t242, .int .i64 t243] 41 (0, 0)) (by (with_reducible repeat (first | refine blk_drewN ?_ _ | refine blk_drew ?_ | refine blk_alloc ?_ _)); refine blk_put (cs := #[.int .i64 t242, .int .i64 0]) ?_ 1 _ rfl; (with_reducible repeat (first | refine blk_drewN ?_ _ | refine blk_drew ?_ | refine blk_alloc ?_ _)); refine blk_put (cs := #[.int .i64 0, .int .i64 0]) ?_ 0 _ rfl; (with_reducible repeat (first | refine blk_drewN ?_ _ | refine blk_drew ?_ | refine blk_alloc ?_ _)); exact BK245.out) k_ hk⟩)); (case aO => exact (by (with_reducible repeat (first | apply Kd.R_alloc | apply Kd.R_drewN | apply Kd.R_drew)); exact Kd.R_mono (Kd.R_far (p := ⟨gb245, 1, none⟩) (Kd.R_far (p := ⟨gb245, 0, none⟩) (Kd.R_mono HO_6.out (fun k_ hk => (⟨hk, hk.2⟩ : _ ∧ k_ ≠ gb245))) (fun _ hk => hk.2) (.int .i64 t242)) (fun _ hk => hk.2) (.int .i64 t243)) (fun _ hk => ⟨hk.1.1.2, hk.1.2⟩))); (case aS => exact bY); (case aL => have := LMc9.out; omega); intro v247 wz3 ho hb hg hat; rw [← Ny246.out] at ho; have HO248 := bA (ho); replace BK241 := bA (blk_grown (g := gb241) (o := .cells #[.int .i64 ((rd_T41 l0 x14_1).f0), .int .i64 ((rd_T41 l0 x14_1).f1)] 41 (0, 0)) (by (repeat ((with_reducible repeat (first | refine blk_drewN ?_ _ | refine blk_drew ?_ | refine blk_alloc ?_ _)); refine blk_far ?_ NB241_245.out _)); (with_reducible repeat (first | refine blk_drewN ?_ _ | refine blk_drew ?_ | refine blk_alloc ?_ _)); exact BK241.out) hg (Kd.R_away HO_6.out (fun _ hk => hk.1.2))); replace BK245 := bA (blk_grown (g := gb245) (o := .cells #[.int .i64 t242, .int .i64 t243] 41 (0, 0)) (by (with_reducible repeat (first | refine blk_drewN ?_ _ | refine blk_drew ?_ | refine blk_alloc ?_ _)); refine blk_put (cs := #[.int .i64 t242, .int .i64 0]) ?_ 1 _ rfl; (with_reducible repeat (first | refine blk_drewN ?_ _ | refine blk_drew ?_ | refine blk_alloc ?_ _)); refine blk_put (cs := #[.int .i64 0, .int .i64 0]) ?_ 0 _ rfl; (with_reducible repeat (first | refine blk_drewN ?_ _ | refine blk_drew ?_ | refine blk_alloc ?_ _)); exact BK245.out) hg (Kd.R_away HO_6.out (fun _ hk => hk.2))); replace HB := bA (hb); clear HO_6; clear ho hb hg hat) | ((first | ((with_reducible refine gate_callee (f := 101) rfl ?_); refine bC (some 22) Try.func101 #[.agg #[.int .i64 ((rd_T41 l0 x14_1).f0), .int .i64 ((rd_T41 l0 x14_1).f1)], .int .i64 a1, .int .i64 a2] ?_) | go_at_call 101); (with_reducible refine (point_Move.calls k1 ((rd_T41 l0 x14_1).f0) ((rd_T41 l0 x14_1).f1) a1 a2 t242 t243 false _ A7.out).mono ?_); rintro e wz1 ⟨rfl, hb⟩; (first | refine ⟨_, rfl, ?_⟩ | skip); replace HO_6 := bA (Kd.R_below (by (with_reducible repeat (first | apply Kd.R_alloc | apply Kd.R_drewN | apply Kd.R_drew)); exact (Kd.R_mono (Kd.R_far (p := ⟨gb241, 1, none⟩) (Kd.R_far (p := ⟨gb241, 0, none⟩) (Kd.R_mono HO_6.out (fun k_ hk => (⟨hk, hk.2⟩ : _ ∧ k_ ≠ gb241))) (fun _ hk => hk.2) (.int .i64 ((rd_T41 l0 x14_1).f0))) (fun _ hk => hk.2) (.int .i64 ((rd_T41 l0 x14_1).f1))) (fun _ h_ => h_.1))) hb); replace BK241 := bA (blk_below (g := gb241) (o := .cells #[.int .i64 ((rd_T41 l0 x14_1).f0), .int .i64 ((rd_T41 l0 x14_1).f1)] 41 (0, 0)) (by (with_reducible repeat (first | refine blk_drewN ?_ _ | refine blk_drew ?_ | refine blk_alloc ?_ _)); refine blk_put (cs := #[.int .i64 ((rd_T41 l0 x14_1).f0), .int .i64 0]) ?_ 1 _ rfl; (with_reducible repeat (first | refine blk_drewN ?_ _ | refine blk_drew ?_ | refine blk_alloc ?_ _)); refine blk_put (cs := #[.int .i64 0, .int .i64 0]) ?_ 0 _ rfl; (with_reducible repeat (first | refine blk_drewN ?_ _ | refine blk_drew ?_ | refine blk_alloc ?_ _)); exact BK241.out) hb); replace HB := bA (bS hb); (try clear hb)) | ((first | ((with_reducible refine gate_callee (f := 31) rfl ?_); refine bC (some 33) Try.func31 #[.slice A0 l0.length c0] ?_) | go_at_call 31); (with_reducible refine (poly_Right.calls k1 _ _ l0 true _ ?side1 ?side2 A23.out).mono ?_); (case side1 => exact bQ HR0); (case side2 => exact HC0.out); rintro e wz0 ⟨rfl, hb⟩; (first | refine ⟨_, rfl, ?_⟩ | skip); replace HO_6 := bA (Kd.R_below (bRr HO_6) hb); replace HB := bA (bS hb); (try clear hb); obtain ⟨Aoz1, coz2, eoz3⟩ := Kd.R_slice HO_6.out; subst eoz3) | (go_at_call 31; (with_reducible refine (poly_Right.calls k1 _ _ x6_1 true _ ?side1 ?side2 A25.out).mono ?_); (case side1 => repeat (first | exact (Kd.R_reads' HO_6.out).2.2 | (with_reducible refine Kd.C_alloc ?_ _) | (with_reducible refine Kd.C_drewN ?_ _) | (with_reducible refine Kd.C_drew ?_))); (case side2 => exact (Kd.R_reads' HO_6.out).2.1); rintro e wz4 ⟨rfl, hb⟩; replace HO_6 := bA (Kd.R_below (bRr HO_6) hb); replace HB := bA (bS hb); (try clear hb)) | (go_at_call 31; (with_reducible refine (poly_Right.calls k1 _ _ x6_1 false _ ?side1 ?side2 A25.out).mono ?_); (case side1 => repeat (first | exact (Kd.R_reads' HO_6.out).2.2 | (with_reducible refine Kd.C_alloc ?_ _) | (with_reducible refine Kd.C_drewN ?_ _) | (with_reducible refine Kd.C_drew ?_))); (case side2 => exact (Kd.R_reads' HO_6.out).2.1); rintro e wz4 ⟨rfl, hb⟩; replace HO_6 := bA (Kd.R_below (bRr HO_6) hb); replace HB := bA (bS hb); (try clear hb)) | ((first | ((with_reducible refine gate_callee (f := 31) rfl ?_); refine bC (some 33) Try.func31 #[.slice A0 l0.length c0] ?_) | go_at_call 31); (with_reducible refine (poly_Right.calls k1 _ _ l0 false _ ?side1 ?side2 A23.out).mono ?_); (case side1 => exact bQ HR0); (case side2 => exact HC0.out); rintro e wz0 ⟨rfl, hb⟩; (first | refine ⟨_, rfl, ?_⟩ | skip); replace HO_6 := bA (Kd.R_below (bRr HO_6) hb); replace HB := bA (bS hb); (try clear hb)))
  ·go_roundg k1
   case measure => have := HK1.out; omega
   case rel => exact ⟨(y246), (wrap64 (x14_1 + 1)), bs, H', ⟨by have := HK1.out; omega⟩, ⟨by (with_reducible repeat (first | apply Kd.R_alloc | apply Kd.R_drewN | apply Kd.R_drew)); exact Kd.R_mono HO248.out (fun _ hk => trivial)⟩, ⟨bX⟩⟩
  ·go_ret2
   exact ⟨_, by first | rfl | (simp [errW_none, errW_some] <;> rfl) | (simp [*, errW_none, errW_some] <;> rfl), by first | exact Kd.R_nil _ _ _ _ _ | exact Kd.N_nil _ _ _ _ _ | exact Kd.V_nil _ _ _ _ _ | exact Kd.Q_nil _ _ _ _ _ | exact Kd.S_nil _ _ _ _ _, by repeat (first | (with_reducible first | exact HB.out | apply below_alloc | apply pw_below_drewN | apply below_drew1 | refine below_set ?_ GE241.out | refine below_set ?_ GE245.out) | exact HB.out)⟩
  ·go_ret2
   exact ⟨_, by first | rfl | (simp [errW_none, errW_some] <;> rfl) | (simp [*, errW_none, errW_some] <;> rfl), bRr HO_6, by repeat (first | (with_reducible first | exact HB.out | apply below_alloc | apply pw_below_drewN | apply below_drew1) | exact HB.out)⟩
  ·go_ret2
   exact ⟨_, by first | rfl | (simp [errW_none, errW_some] <;> rfl) | (simp [*, errW_none, errW_some] <;> rfl), by first | exact Kd.R_nil _ _ _ _ _ | exact Kd.N_nil _ _ _ _ _ | exact Kd.V_nil _ _ _ _ _ | exact Kd.Q_nil _ _ _ _ _ | exact Kd.S_nil _ _ _ _ _, by repeat (first | (with_reducible first | exact HB.out | apply below_alloc | apply pw_below_drewN | apply below_drew1) | exact HB.out)⟩
  go_ret2
  exact ⟨_, by first | rfl | (simp [errW_none, errW_some] <;> rfl) | (simp [*, errW_none, errW_some] <;> rfl), by first | exact Kd.R_nil _ _ _ _ _ | exact Kd.N_nil _ _ _ _ _ | exact Kd.V_nil _ _ _ _ _ | exact Kd.Q_nil _ _ _ _ _ | exact Kd.S_nil _ _ _ _ _, by repeat (first | (with_reducible first | exact HB.out | apply below_alloc | apply pw_below_drewN | apply below_drew1) | exact HB.out)⟩
/-! ### poly_Side: function 32 -/
mutual
def poly_Side.j0 : Nat → List (S41) → Bool → Int → Int → Option (Int)
 | 0, _, _, _, _ => none
 | k + 1, x0, x16, x252000, x252001 => if x16 = true then (some (-1)) else (poly_Side.l0 k x0 (-1) (x0.length : Int) 0 x252000 x252001)
def poly_Side.l0 : Nat → List (S41) → Int → Int → Int → Int → Int → Option (Int)
 | 0, _, _, _, _, _, _ => none
 | k + 1, x0, x5, x18, x19, x252000, x252001 => if x19 < x18 then ((poly_edge.f x0 x19).bind fun bt254 => ((point_On.f k x252000 x252001 bt254.1 bt254.2.1 bt254.2.2.1 bt254.2.2.2).bind fun t260 => (if t260 = true then (some 0) else (if bt254.2.1 > bt254.2.2.2 then (if bt254.2.2.2 ≤ x252001 then (if x252001 < bt254.2.1 then ((point_Turn.f k bt254.2.2.1 bt254.2.2.2 bt254.1 bt254.2.1 x252000 x252001).bind fun t261 => (if t261 > 0 then (poly_Side.l0 k x0 (wrap64 (-x5)) x18 (wrap64 (x19 + 1)) x252000 x252001) else (poly_Side.l0 k x0 x5 x18 (wrap64 (x19 + 1)) x252000 x252001))) else (poly_Side.l0 k x0 x5 x18 (wrap64 (x19 + 1)) x252000 x252001)) else (poly_Side.l0 k x0 x5 x18 (wrap64 (x19 + 1)) x252000 x252001)) else (if bt254.2.1 ≤ x252001 then (if x252001 < bt254.2.2.2 then ((point_Turn.f k bt254.1 bt254.2.1 bt254.2.2.1 bt254.2.2.2 x252000 x252001).bind fun t262 => (if t262 > 0 then (poly_Side.l0 k x0 (wrap64 (-x5)) x18 (wrap64 (x19 + 1)) x252000 x252001) else (poly_Side.l0 k x0 x5 x18 (wrap64 (x19 + 1)) x252000 x252001))) else (poly_Side.l0 k x0 x5 x18 (wrap64 (x19 + 1)) x252000 x252001)) else (poly_Side.l0 k x0 x5 x18 (wrap64 (x19 + 1)) x252000 x252001)))))) else (some x5)
end
def poly_Side.f (k : Nat) (l0 : List (S41)) (a1_0 : Int) (a1_1 : Int) : Option (Int) := (poly_Right.f k l0).bind fun t252 => (if t252 = true then ((point_Right.f a1_0 a1_1).bind fun t253 => (poly_Side.j0 k l0 (!t253) a1_0 a1_1)) else (poly_Side.j0 k l0 true a1_0 a1_1))
theorem poly_Side.mono_l : ∀ k, (∀ y0 y1 y2 y3, LeO (poly_Side.j0 k y0 y1 y2 y3) (poly_Side.j0 (k + 1) y0 y1 y2 y3)) ∧ (∀ y0 y1 y2 y3 y4 y5, LeO (poly_Side.l0 k y0 y1 y2 y3 y4 y5) (poly_Side.l0 (k + 1) y0 y1 y2 y3 y4 y5))
 | 0 => ⟨fun _ _ _ _ r h => by simp [poly_Side.j0] at h, fun _ _ _ _ _ _ r h => by simp [poly_Side.l0] at h⟩
 | k + 1 => by
  obtain ⟨ih0, ih1⟩ := poly_Side.mono_l k
  refine ⟨?_, ?_⟩
  ·intro y0 y1 y2 y3
   unfold poly_Side.j0
   repeat' first
   | (with_reducible exact ih0 _ _ _ _)
   | (with_reducible exact ih1 _ _ _ _ _ _)
   | (with_reducible exact point_On.mono _ _ _ _ _ _ _)
   | (with_reducible exact point_Turn.mono _ _ _ _ _ _ _)
   | (with_reducible exact poly_Right.mono _ _)
   | (with_reducible exact LeO.refl _)
   | (with_reducible exact LeO.none _)
   | (with_reducible refine LeO.ite ?_ ?_)
   | (with_reducible refine LeO.bind ?_ (fun _ => ?_))
   | exact ih0 _ _ _ _
   | exact ih1 _ _ _ _ _ _
   | exact point_On.mono _ _ _ _ _ _ _
   | exact point_Turn.mono _ _ _ _ _ _ _
   | exact poly_Right.mono _ _
   | exact LeO.none _
   | refine LeO.ite ?_ ?_
   | refine LeO.bind ?_ (fun _ => ?_)
  ·intro y0 y1 y2 y3 y4 y5
   unfold poly_Side.l0
   repeat' first
   | (with_reducible exact ih0 _ _ _ _)
   | (with_reducible exact ih1 _ _ _ _ _ _)
   | (with_reducible exact point_On.mono _ _ _ _ _ _ _)
   | (with_reducible exact point_Turn.mono _ _ _ _ _ _ _)
   | (with_reducible exact poly_Right.mono _ _)
   | (with_reducible exact LeO.refl _)
   | (with_reducible exact LeO.none _)
   | (with_reducible refine LeO.ite ?_ ?_)
   | (with_reducible refine LeO.bind ?_ (fun _ => ?_))
   | exact ih0 _ _ _ _
   | exact ih1 _ _ _ _ _ _
   | exact point_On.mono _ _ _ _ _ _ _
   | exact point_Turn.mono _ _ _ _ _ _ _
   | exact poly_Right.mono _ _
   | exact LeO.none _
   | refine LeO.ite ?_ ?_
   | refine LeO.bind ?_ (fun _ => ?_)
theorem poly_Side.mono : ∀ a0 a1 a2 k, LeO (poly_Side.f k a0 a1 a2) (poly_Side.f (k + 1) a0 a1 a2) := by
 intro a0 a1 a2 k
 obtain ⟨ih0, ih1⟩ := poly_Side.mono_l k
 unfold poly_Side.f
 repeat' first
   | (with_reducible exact ih0 _ _ _ _)
   | (with_reducible exact ih1 _ _ _ _ _ _)
   | (with_reducible exact point_On.mono _ _ _ _ _ _ _)
   | (with_reducible exact point_Turn.mono _ _ _ _ _ _ _)
   | (with_reducible exact poly_Right.mono _ _)
   | (with_reducible exact LeO.refl _)
   | (with_reducible exact LeO.none _)
   | (with_reducible refine LeO.ite ?_ ?_)
   | (with_reducible refine LeO.bind ?_ (fun _ => ?_))
   | exact ih0 _ _ _ _
   | exact ih1 _ _ _ _ _ _
   | exact point_On.mono _ _ _ _ _ _ _
   | exact point_Turn.mono _ _ _ _ _ _ _
   | exact poly_Right.mono _ _
   | exact LeO.none _
   | refine LeO.ite ?_ ?_
   | refine LeO.bind ?_ (fun _ => ?_)
set_option maxHeartbeats 8000000 in
set_option maxRecDepth 100000 in
theorem poly_Side.calls (k : Nat) (A0 : Option Addr) (c0 : Nat) (l0 : List (S41)) (a1_0 : Int) (a1_1 : Int) (r : Int) (w : World) (hr0 : Kd.C k41 w A0 l0.length l0) (hc0 : l0.length ≤ c0) (h : poly_Side.f k l0 a1_0 a1_1 = some r) :
  Calls Try.prog 32 #[.slice A0 l0.length c0, .agg #[.int .i64 a1_0, .int .i64 a1_1]] w fun e w' => e = .returned (.int .i64 r) ∧ Below w.heap.size w w' := by
 have hu41 := Try.underlying41
 have HR0 := bA hr0
 have HC0 := bA hc0
 clear hr0 hc0
 have HB := bA (Below.refl w.heap.size w)
 have H : ((poly_Right.f k l0).bind fun t252 => (if t252 = true then ((point_Right.f a1_0 a1_1).bind fun t253 => (poly_Side.j0 k l0 (!t253) a1_0 a1_1)) else (poly_Side.j0 k l0 true a1_0 a1_1))) = some r := h
 clear h
 have HC3 := bA H
 clear H
 go_enter Try.func32, Try.ntmps32
 go_upto_region 1 with (first | ((with_reducible refine gate_dst (N := 3) rfl ?_); refine bE (N := 3) (cs := #[.int .i64 a1_0, .int .i64 a1_1]) (t := 41) ?_; intro gb251 hg w4 hbox hb; have n0_ := bA (bS hb); have n1_ := bA (hbox); have n2_ := bA (bZ hg); have n3_ := bA (bZ hg); clear HB; have HB := n0_; have BK251 := n1_; have GW251 := n2_; have GE251 := n3_; clear n0_ n1_ n2_ n3_; clear hb hbox hg))
 (try simp only [Act.put, List.setIfInBounds_toArray, List.set_cons_zero, List.set_cons_succ])
 go_cut [16] (fun v16 wc => ∃ (kq : Nat) (x16_2 : Bool), v16 = .bool x16_2 ∧ Aside0 (poly_Side.j0 kq l0 x16_2 a1_0 a1_1 = some r) ∧ Aside0 (kq ≤ k) ∧ Aside0 (wc.heap[gb251]? = some (.cells #[.int .i64 a1_0, .int .i64 a1_1] 41 (0, 0))) ∧ Aside0 (Below w.heap.size w wc))
 case first =>
  have H := HC3.out
  clear HC3
  replace H := Option.bind_eq_some_iff.mp H
  obtain ⟨t252, A50, H⟩ := H
  have A5 := bA A50
  clear A50
  by_cases c6 : t252 = true
  subst c6
  rw [if_pos rfl] at H
  replace H := Option.bind_eq_some_iff.mp H
  obtain ⟨t253, A70, H⟩ := H
  have A7 := bA A70
  clear A70
  have H' := bA H
  clear H
  rotate_left
  replace c6 := Bool.eq_false_iff.mpr c6
  subst c6
  rw [if_neg bn] at H
  have H' := bA H
  clear H
  rotate_left
  all_goals go_wp2_with (first | ((first | ((with_reducible refine gate_callee (f := 31) rfl ?_); refine bC (some 10) Try.func31 #[.slice A0 l0.length c0] ?_) | go_at_call 31); (with_reducible refine (poly_Right.calls k _ _ l0 true _ ?side1 ?side2 A5.out).mono ?_); (case side1 => exact bQ HR0); (case side2 => exact HC0.out); rintro e wz0 ⟨rfl, hb⟩; (first | refine ⟨_, rfl, ?_⟩ | skip); replace BK251 := bA (bB BK251 hb); replace HB := bA (bS hb); (try clear hb); obtain ⟨hz1, hz2, hz3, hz4⟩ := bc2 BK251) | (go_at_call 67; (with_reducible refine (point_Right.calls a1_0 a1_1 t253 _ A7.out).mono ?_); rintro e wz1 ⟨rfl, hb⟩; replace BK251 := bA (bB BK251 hb); replace HB := bA (bS hb); (try clear hb)) | ((first | ((with_reducible refine gate_callee (f := 31) rfl ?_); refine bC (some 10) Try.func31 #[.slice A0 l0.length c0] ?_) | go_at_call 31); (with_reducible refine (poly_Right.calls k _ _ l0 false _ ?side1 ?side2 A5.out).mono ?_); (case side1 => exact bQ HR0); (case side2 => exact HC0.out); rintro e wz0 ⟨rfl, hb⟩; (first | refine ⟨_, rfl, ?_⟩ | skip); replace BK251 := bA (bB BK251 hb); replace HB := bA (bS hb); (try clear hb)))
  ·go_meet
   case rel => exact ⟨_, (!t253), bs, H', ⟨by first | omega | exact Nat.le_refl _⟩, ⟨by (with_reducible repeat (first | refine blk_drewN ?_ _ | refine blk_drew ?_ | refine blk_alloc ?_ _)); exact BK251.out⟩, ⟨bX⟩⟩
  go_meet
  case rel => exact ⟨_, (true), bs, H', ⟨by first | omega | exact Nat.le_refl _⟩, ⟨by (with_reducible repeat (first | refine blk_drewN ?_ _ | refine blk_drew ?_ | refine blk_alloc ?_ _)); exact BK251.out⟩, ⟨bX⟩⟩
 clear HC3
 try clear p2
 try clear c3
 try clear c6
 try clear hcz9_0
 try clear hcz9_1
 try clear hfz9_0
 try clear hfz9_1
 obtain ⟨kq, x16_2, rfl, HA, HJ2, BK251, HB⟩ := hcut
 cases kq with
 | zero => exact absurd HA.out (by simp [poly_Side.j0])
 | succ kj2 =>
  have H := HA.out
  clear HA
  simp only [poly_Side.j0] at H
  by_cases c12 : x16_2 = true
  ·subst c12
   rw [if_pos rfl] at H
   obtain rfl := Option.some.inj H
   go_wp2
   go_ret
   exact bF
  replace c12 := Bool.eq_false_iff.mpr c12
  subst c12
  rw [if_neg bn] at H
  have H' := bA H
  clear H
  go_wp2
  go_loopg [5, 19] kj2 (fun kq v5 v19 w' => ∃ (x5_2 : Int) (x19_2 : Int), v5 = .int .i64 x5_2 ∧ v19 = .int .i64 x19_2 ∧ Aside0 (poly_Side.l0 kq l0 x5_2 (l0.length : Int) x19_2 a1_0 a1_1 = some r) ∧ Aside0 (kq ≤ kj2) ∧ Aside0 (w'.heap[gb251]? = some (.cells #[.int .i64 a1_0, .int .i64 a1_1] 41 (0, 0))) ∧ Aside0 (Below w.heap.size w w'))
  case atStart => exact ⟨((-1)), (0), bs, bs, H', ⟨Nat.le_refl _⟩, ⟨by (with_reducible repeat (first | refine blk_drewN ?_ _ | refine blk_drew ?_ | refine blk_alloc ?_ _)); exact BK251.out⟩, ⟨bX⟩⟩
  clear H'
  try clear c1
  try clear p2
  try clear c3
  try clear c6
  try clear c12
  try clear hcz9_0
  try clear hcz9_1
  try clear hfz9_0
  try clear hfz9_1
  try clear p2
  obtain ⟨x5_2, x19_2, rfl, rfl, HA, HK2, BK251, HB⟩ := hrel
  cases gk with
  | zero => exact absurd HA.out (by simp [poly_Side.l0])
  | succ k2 =>
   have H := HA.out
   clear HA
   simp only [poly_Side.l0] at H
   by_cases c13 : x19_2 < (l0.length : Int)
   rw [if_pos c13] at H
   have c13b0 : decide (x19_2 < (l0.length : Int)) = true := decide_eq_true c13
   clear c13
   replace H := Option.bind_eq_some_iff.mp H
   obtain ⟨⟨t254, t255, t256, t257⟩, A140, H⟩ := H
   replace H : ((point_On.f k2 a1_0 a1_1 t254 t255 t256 t257).bind fun t260 => (if t260 = true then (some 0) else (if t255 > t257 then (if t257 ≤ a1_1 then (if a1_1 < t255 then ((point_Turn.f k2 t256 t257 t254 t255 a1_0 a1_1).bind fun t261 => (if t261 > 0 then (poly_Side.l0 k2 l0 (wrap64 (-x5_2)) (l0.length : Int) (wrap64 (x19_2 + 1)) a1_0 a1_1) else (poly_Side.l0 k2 l0 x5_2 (l0.length : Int) (wrap64 (x19_2 + 1)) a1_0 a1_1))) else (poly_Side.l0 k2 l0 x5_2 (l0.length : Int) (wrap64 (x19_2 + 1)) a1_0 a1_1)) else (poly_Side.l0 k2 l0 x5_2 (l0.length : Int) (wrap64 (x19_2 + 1)) a1_0 a1_1)) else (if t255 ≤ a1_1 then (if a1_1 < t257 then ((point_Turn.f k2 t254 t255 t256 t257 a1_0 a1_1).bind fun t262 => (if t262 > 0 then (poly_Side.l0 k2 l0 (wrap64 (-x5_2)) (l0.length : Int) (wrap64 (x19_2 + 1)) a1_0 a1_1) else (poly_Side.l0 k2 l0 x5_2 (l0.length : Int) (wrap64 (x19_2 + 1)) a1_0 a1_1))) else (poly_Side.l0 k2 l0 x5_2 (l0.length : Int) (wrap64 (x19_2 + 1)) a1_0 a1_1)) else (poly_Side.l0 k2 l0 x5_2 (l0.length : Int) (wrap64 (x19_2 + 1)) a1_0 a1_1))))) = some r := H
   have A14 := bA A140
   clear A140
   replace H := Option.bind_eq_some_iff.mp H
   obtain ⟨t260, A150, H⟩ := H
   have A15 := bA A150
   clear A150
   by_cases c16 : t260 = true
   subst c16
   rw [if_pos rfl] at H
   obtain rfl := Option.some.inj H
   rotate_left
   replace c16 := Bool.eq_false_iff.mpr c16
   subst c16
   rw [if_neg bn] at H
   by_cases c27 : t255 > t257
   rw [if_pos c27] at H
   have c27b0 : decide (t257 < t255) = true := decide_eq_true c27
   clear c27
   by_cases c28 : t257 ≤ a1_1
   rw [if_pos c28] at H
   have c28b0 : decide (t257 ≤ a1_1) = true := decide_eq_true c28
   clear c28
   by_cases c29 : a1_1 < t255
   rw [if_pos c29] at H
   have c29b0 : decide (a1_1 < t255) = true := decide_eq_true c29
   clear c29
   replace H := Option.bind_eq_some_iff.mp H
   obtain ⟨t261, A300, H⟩ := H
   have A30 := bA A300
   clear A300
   by_cases c31 : t261 > 0
   rw [if_pos c31] at H
   have c31b0 : decide (0 < t261) = true := decide_eq_true c31
   clear c31
   have H' := bA H
   clear H
   rotate_left
   rw [if_neg c31] at H
   have c31b0 : decide (0 < t261) = false := decide_eq_false c31
   clear c31
   have H' := bA H
   clear H
   rotate_left
   rw [if_neg c29] at H
   have c29b0 : decide (a1_1 < t255) = false := decide_eq_false c29
   clear c29
   have H' := bA H
   clear H
   rotate_left
   rw [if_neg c28] at H
   have c28b0 : decide (t257 ≤ a1_1) = false := decide_eq_false c28
   clear c28
   have H' := bA H
   clear H
   rotate_left
   rw [if_neg c27] at H
   have c27b0 : decide (t257 < t255) = false := decide_eq_false c27
   clear c27
   by_cases c86 : t255 ≤ a1_1
   rw [if_pos c86] at H
   have c86b0 : decide (t255 ≤ a1_1) = true := decide_eq_true c86
   clear c86
   by_cases c87 : a1_1 < t257
   rw [if_pos c87] at H
   have c87b0 : decide (a1_1 < t257) = true := decide_eq_true c87
   clear c87
   replace H := Option.bind_eq_some_iff.mp H
   obtain ⟨t262, A880, H⟩ := H
   have A88 := bA A880
   clear A880
   by_cases c89 : t262 > 0
   rw [if_pos c89] at H
   have c89b0 : decide (0 < t262) = true := decide_eq_true c89
   clear c89
   have H' := bA H
   clear H
   rotate_left
   rw [if_neg c89] at H
   have c89b0 : decide (0 < t262) = false := decide_eq_false c89
   clear c89
   have H' := bA H
   clear H
   rotate_left
   rw [if_neg c87] at H
   have c87b0 : decide (a1_1 < t257) = false := decide_eq_false c87
   clear c87
   have H' := bA H
   clear H
   rotate_left
   rw [if_neg c86] at H
   have c86b0 : decide (t255 ≤ a1_1) = false := decide_eq_false c86
   clear c86
   have H' := bA H
   clear H
   rotate_left
   rw [if_neg c13] at H
   have c13b0 : decide (x19_2 < (l0.length : Int)) = false := decide_eq_false c13
   clear c13
   obtain rfl := Option.some.inj H
   rotate_left
   all_goals go_wp2_with (first | ((first | ((with_reducible refine gate_callee (f := 73) rfl ?_); refine bC (some 25) Try.func73 #[.slice A0 l0.length c0, .int .i64 x19_2] ?_) | go_at_call 73); (with_reducible refine (poly_edge.calls _ _ l0 x19_2 t254 t255 t256 t257 _ ?side1 ?side2 A14.out).mono ?_); (case side1 => exact bQ HR0); (case side2 => exact HC0.out); rintro e wz0 ⟨rfl, hb⟩; (first | refine ⟨_, rfl, ?_⟩ | skip); replace BK251 := bA (bB BK251 hb); replace HB := bA (bS hb); (try clear hb)) | ((with_reducible refine gate_dst (N := 7) rfl ?_); refine bE (N := 7) (cs := #[.int .i64 0, .int .i64 0]) (t := 41) ?_; intro gb258 hg wz1 hbox hb; have BK258 := bA (hbox); have GW258 := bA (bZ hg); have GE258 := bA (bZ hg); have NB251_258 := bA (bL BK251 hg); have NB258_251 := bA (bG BK251 hg); replace BK251 := bA (bB BK251 hb); replace HB := bA (bS hb); clear hb hbox hg) | ((with_reducible refine gate_dst (N := 8) rfl ?_); refine bE (N := 8) (cs := #[.int .i64 0, .int .i64 0]) (t := 41) ?_; intro gb259 hg wz2 hbox hb; have BK259 := bA (hbox); have GW259 := bA (bZ hg); have GE259 := bA (bZ hg); have NB251_259 := bA (bL BK251 hg); have NB259_251 := bA (bG BK251 hg); have NB258_259 := bA (bL BK258 hg); have NB259_258 := bA (bG BK258 hg); replace BK251 := bA (bB BK251 hb); replace BK258 := bA (bB BK258 hb); replace HB := bA (bS hb); clear hb hbox hg; have hz1 := NB258_251.out; have hz2 := NB251_258.out; have hz3 := NB258_259.out; have hz4 := NB259_258.out; obtain ⟨hz5, hz6, hz7, hz8⟩ := bc2 BK258; have hz9 := NB259_251.out; have hz10 := NB251_259.out; obtain ⟨hz11, hz12, hz13, hz14⟩ := bc2 BK259; obtain ⟨hz15, hz16, hz17, hz18⟩ := bc2 BK251) | ((first | ((with_reducible refine gate_callee (f := 41) rfl ?_); refine bC (some 31) Try.func41 #[.agg #[.int .i64 a1_0, .int .i64 a1_1], .agg #[.int .i64 t254, .int .i64 t255], .agg #[.int .i64 t256, .int .i64 t257]] ?_) | go_at_call 41); (with_reducible refine (point_On.calls k2 a1_0 a1_1 t254 t255 t256 t257 true _ A15.out).mono ?_); rintro e wz3 ⟨rfl, hb⟩; (first | refine ⟨_, rfl, ?_⟩ | skip); replace BK251 := bA (blk_below (g := gb251) (o := .cells #[.int .i64 a1_0, .int .i64 a1_1] 41 (0, 0)) (by (repeat ((with_reducible repeat (first | refine blk_drewN ?_ _ | refine blk_drew ?_ | refine blk_alloc ?_ _)); refine blk_far ?_ NB251_259.out _)); (repeat ((with_reducible repeat (first | refine blk_drewN ?_ _ | refine blk_drew ?_ | refine blk_alloc ?_ _)); refine blk_far ?_ NB251_258.out _)); (with_reducible repeat (first | refine blk_drewN ?_ _ | refine blk_drew ?_ | refine blk_alloc ?_ _)); exact BK251.out) hb); replace BK258 := bA (blk_below (g := gb258) (o := .cells #[.int .i64 t254, .int .i64 t255] 41 (0, 0)) (by (repeat ((with_reducible repeat (first | refine blk_drewN ?_ _ | refine blk_drew ?_ | refine blk_alloc ?_ _)); refine blk_far ?_ NB258_259.out _)); (with_reducible repeat (first | refine blk_drewN ?_ _ | refine blk_drew ?_ | refine blk_alloc ?_ _)); refine blk_put (cs := #[.int .i64 t254, .int .i64 0]) ?_ 1 _ rfl; (with_reducible repeat (first | refine blk_drewN ?_ _ | refine blk_drew ?_ | refine blk_alloc ?_ _)); refine blk_put (cs := #[.int .i64 0, .int .i64 0]) ?_ 0 _ rfl; (with_reducible repeat (first | refine blk_drewN ?_ _ | refine blk_drew ?_ | refine blk_alloc ?_ _)); exact BK258.out) hb); replace BK259 := bA (blk_below (g := gb259) (o := .cells #[.int .i64 t256, .int .i64 t257] 41 (0, 0)) (by (with_reducible repeat (first | refine blk_drewN ?_ _ | refine blk_drew ?_ | refine blk_alloc ?_ _)); refine blk_put (cs := #[.int .i64 t256, .int .i64 0]) ?_ 1 _ rfl; (with_reducible repeat (first | refine blk_drewN ?_ _ | refine blk_drew ?_ | refine blk_alloc ?_ _)); refine blk_put (cs := #[.int .i64 0, .int .i64 0]) ?_ 0 _ rfl; (repeat ((with_reducible repeat (first | refine blk_drewN ?_ _ | refine blk_drew ?_ | refine blk_alloc ?_ _)); refine blk_far ?_ NB259_258.out _)); (with_reducible repeat (first | refine blk_drewN ?_ _ | refine blk_drew ?_ | refine blk_alloc ?_ _)); exact BK259.out) hb); replace HB := bA (bS hb); (try clear hb)) | ((first | ((with_reducible refine gate_callee (f := 41) rfl ?_); refine bC (some 31) Try.func41 #[.agg #[.int .i64 a1_0, .int .i64 a1_1], .agg #[.int .i64 t254, .int .i64 t255], .agg #[.int .i64 t256, .int .i64 t257]] ?_) | go_at_call 41); (with_reducible refine (point_On.calls k2 a1_0 a1_1 t254 t255 t256 t257 false _ A15.out).mono ?_); rintro e wz3 ⟨rfl, hb⟩; (first | refine ⟨_, rfl, ?_⟩ | skip); replace BK251 := bA (blk_below (g := gb251) (o := .cells #[.int .i64 a1_0, .int .i64 a1_1] 41 (0, 0)) (by (repeat ((with_reducible repeat (first | refine blk_drewN ?_ _ | refine blk_drew ?_ | refine blk_alloc ?_ _)); refine blk_far ?_ NB251_259.out _)); (repeat ((with_reducible repeat (first | refine blk_drewN ?_ _ | refine blk_drew ?_ | refine blk_alloc ?_ _)); refine blk_far ?_ NB251_258.out _)); (with_reducible repeat (first | refine blk_drewN ?_ _ | refine blk_drew ?_ | refine blk_alloc ?_ _)); exact BK251.out) hb); replace BK258 := bA (blk_below (g := gb258) (o := .cells #[.int .i64 t254, .int .i64 t255] 41 (0, 0)) (by (repeat ((with_reducible repeat (first | refine blk_drewN ?_ _ | refine blk_drew ?_ | refine blk_alloc ?_ _)); refine blk_far ?_ NB258_259.out _)); (with_reducible repeat (first | refine blk_drewN ?_ _ | refine blk_drew ?_ | refine blk_alloc ?_ _)); refine blk_put (cs := #[.int .i64 t254, .int .i64 0]) ?_ 1 _ rfl; (with_reducible repeat (first | refine blk_drewN ?_ _ | refine blk_drew ?_ | refine blk_alloc ?_ _)); refine blk_put (cs := #[.int .i64 0, .int .i64 0]) ?_ 0 _ rfl; (with_reducible repeat (first | refine blk_drewN ?_ _ | refine blk_drew ?_ | refine blk_alloc ?_ _)); exact BK258.out) hb); replace BK259 := bA (blk_below (g := gb259) (o := .cells #[.int .i64 t256, .int .i64 t257] 41 (0, 0)) (by (with_reducible repeat (first | refine blk_drewN ?_ _ | refine blk_drew ?_ | refine blk_alloc ?_ _)); refine blk_put (cs := #[.int .i64 t256, .int .i64 0]) ?_ 1 _ rfl; (with_reducible repeat (first | refine blk_drewN ?_ _ | refine blk_drew ?_ | refine blk_alloc ?_ _)); refine blk_put (cs := #[.int .i64 0, .int .i64 0]) ?_ 0 _ rfl; (repeat ((with_reducible repeat (first | refine blk_drewN ?_ _ | refine blk_drew ?_ | refine blk_alloc ?_ _)); refine blk_far ?_ NB259_258.out _)); (with_reducible repeat (first | refine blk_drewN ?_ _ | refine blk_drew ?_ | refine blk_alloc ?_ _)); exact BK259.out) hb); replace HB := bA (bS hb); (try clear hb); obtain ⟨hz19, hz20, hz7, hz8⟩ := bc2 BK258; obtain ⟨hz21, hz22, hz13, hz14⟩ := bc2 BK259; obtain ⟨hz23, hz24, hz17, hz18⟩ := bc2 BK251) | (go_at_call 74; (with_reducible refine (point_Turn.calls k2 t256 t257 t254 t255 a1_0 a1_1 t261 _ A30.out).mono ?_); rintro e wz4 ⟨rfl, hb⟩; replace BK251 := bA (blk_below (g := gb251) (o := .cells #[.int .i64 a1_0, .int .i64 a1_1] 41 (0, 0)) (by (repeat ((with_reducible repeat (first | refine blk_drewN ?_ _ | refine blk_drew ?_ | refine blk_alloc ?_ _)); refine blk_far ?_ NB251_259.out _)); (repeat ((with_reducible repeat (first | refine blk_drewN ?_ _ | refine blk_drew ?_ | refine blk_alloc ?_ _)); refine blk_far ?_ NB251_258.out _)); (with_reducible repeat (first | refine blk_drewN ?_ _ | refine blk_drew ?_ | refine blk_alloc ?_ _)); exact BK251.out) hb); replace BK258 := bA (blk_below (g := gb258) (o := .cells #[.int .i64 t256, .int .i64 t257] 41 (0, 0)) (by (repeat ((with_reducible repeat (first | refine blk_drewN ?_ _ | refine blk_drew ?_ | refine blk_alloc ?_ _)); refine blk_far ?_ NB258_259.out _)); (with_reducible repeat (first | refine blk_drewN ?_ _ | refine blk_drew ?_ | refine blk_alloc ?_ _)); refine blk_put (cs := #[.int .i64 t256, .int .i64 t255]) ?_ 1 _ rfl; (with_reducible repeat (first | refine blk_drewN ?_ _ | refine blk_drew ?_ | refine blk_alloc ?_ _)); refine blk_put (cs := #[.int .i64 t254, .int .i64 t255]) ?_ 0 _ rfl; (with_reducible repeat (first | refine blk_drewN ?_ _ | refine blk_drew ?_ | refine blk_alloc ?_ _)); exact BK258.out) hb); replace BK259 := bA (blk_below (g := gb259) (o := .cells #[.int .i64 t254, .int .i64 t255] 41 (0, 0)) (by (with_reducible repeat (first | refine blk_drewN ?_ _ | refine blk_drew ?_ | refine blk_alloc ?_ _)); refine blk_put (cs := #[.int .i64 t254, .int .i64 t257]) ?_ 1 _ rfl; (with_reducible repeat (first | refine blk_drewN ?_ _ | refine blk_drew ?_ | refine blk_alloc ?_ _)); refine blk_put (cs := #[.int .i64 t256, .int .i64 t257]) ?_ 0 _ rfl; (repeat ((with_reducible repeat (first | refine blk_drewN ?_ _ | refine blk_drew ?_ | refine blk_alloc ?_ _)); refine blk_far ?_ NB259_258.out _)); (with_reducible repeat (first | refine blk_drewN ?_ _ | refine blk_drew ?_ | refine blk_alloc ?_ _)); exact BK259.out) hb); replace HB := bA (bS hb); (try clear hb)) | (go_at_call 74; (with_reducible refine (point_Turn.calls k2 t254 t255 t256 t257 a1_0 a1_1 t262 _ A88.out).mono ?_); rintro e wz4 ⟨rfl, hb⟩; replace BK251 := bA (bB BK251 hb); replace BK258 := bA (bB BK258 hb); replace BK259 := bA (bB BK259 hb); replace HB := bA (bS hb); (try clear hb)))
   ·go_ret
    exact bF
   ·go_roundg k2
    case measure => have := HJ2.out; have := HK2.out; omega
    case rel => exact ⟨(wrap64 (-x5_2)), (wrap64 (x19_2 + 1)), bs, bs, H', ⟨by have := HJ2.out; have := HK2.out; omega⟩, ⟨by (with_reducible repeat (first | refine blk_drewN ?_ _ | refine blk_drew ?_ | refine blk_alloc ?_ _)); exact BK251.out⟩, ⟨bX⟩⟩
   ·go_roundg k2
    case measure => have := HJ2.out; have := HK2.out; omega
    case rel => exact ⟨(x5_2), (wrap64 (x19_2 + 1)), bs, bs, H', ⟨by have := HJ2.out; have := HK2.out; omega⟩, ⟨by (with_reducible repeat (first | refine blk_drewN ?_ _ | refine blk_drew ?_ | refine blk_alloc ?_ _)); exact BK251.out⟩, ⟨bX⟩⟩
   ·go_roundg k2
    case measure => have := HJ2.out; have := HK2.out; omega
    case rel => exact ⟨(x5_2), (wrap64 (x19_2 + 1)), bs, bs, H', ⟨by have := HJ2.out; have := HK2.out; omega⟩, ⟨by (repeat ((with_reducible repeat (first | refine blk_drewN ?_ _ | refine blk_drew ?_ | refine blk_alloc ?_ _)); refine blk_far ?_ NB251_259.out _)); (repeat ((with_reducible repeat (first | refine blk_drewN ?_ _ | refine blk_drew ?_ | refine blk_alloc ?_ _)); refine blk_far ?_ NB251_258.out _)); (with_reducible repeat (first | refine blk_drewN ?_ _ | refine blk_drew ?_ | refine blk_alloc ?_ _)); exact BK251.out⟩, ⟨bX⟩⟩
   ·go_roundg k2
    case measure => have := HJ2.out; have := HK2.out; omega
    case rel => exact ⟨(x5_2), (wrap64 (x19_2 + 1)), bs, bs, H', ⟨by have := HJ2.out; have := HK2.out; omega⟩, ⟨by (repeat ((with_reducible repeat (first | refine blk_drewN ?_ _ | refine blk_drew ?_ | refine blk_alloc ?_ _)); refine blk_far ?_ NB251_259.out _)); (repeat ((with_reducible repeat (first | refine blk_drewN ?_ _ | refine blk_drew ?_ | refine blk_alloc ?_ _)); refine blk_far ?_ NB251_258.out _)); (with_reducible repeat (first | refine blk_drewN ?_ _ | refine blk_drew ?_ | refine blk_alloc ?_ _)); exact BK251.out⟩, ⟨bX⟩⟩
   ·go_roundg k2
    case measure => have := HJ2.out; have := HK2.out; omega
    case rel => exact ⟨(wrap64 (-x5_2)), (wrap64 (x19_2 + 1)), bs, bs, H', ⟨by have := HJ2.out; have := HK2.out; omega⟩, ⟨by (with_reducible repeat (first | refine blk_drewN ?_ _ | refine blk_drew ?_ | refine blk_alloc ?_ _)); exact BK251.out⟩, ⟨bX⟩⟩
   ·go_roundg k2
    case measure => have := HJ2.out; have := HK2.out; omega
    case rel => exact ⟨(x5_2), (wrap64 (x19_2 + 1)), bs, bs, H', ⟨by have := HJ2.out; have := HK2.out; omega⟩, ⟨by (with_reducible repeat (first | refine blk_drewN ?_ _ | refine blk_drew ?_ | refine blk_alloc ?_ _)); exact BK251.out⟩, ⟨bX⟩⟩
   ·go_roundg k2
    case measure => have := HJ2.out; have := HK2.out; omega
    case rel => exact ⟨(x5_2), (wrap64 (x19_2 + 1)), bs, bs, H', ⟨by have := HJ2.out; have := HK2.out; omega⟩, ⟨by (with_reducible repeat (first | refine blk_drewN ?_ _ | refine blk_drew ?_ | refine blk_alloc ?_ _)); exact BK251.out⟩, ⟨bX⟩⟩
   ·go_roundg k2
    case measure => have := HJ2.out; have := HK2.out; omega
    case rel => exact ⟨(x5_2), (wrap64 (x19_2 + 1)), bs, bs, H', ⟨by have := HJ2.out; have := HK2.out; omega⟩, ⟨by (with_reducible repeat (first | refine blk_drewN ?_ _ | refine blk_drew ?_ | refine blk_alloc ?_ _)); exact BK251.out⟩, ⟨bX⟩⟩
   go_ret
   exact bF
/-! ### wide_Wide_Sub: function 78 -/
def wide_Wide_Sub.f (a0_0 : Int) (a0_1 : Int) (a1_0 : Int) (a1_1 : Int) : Option (Int × Int × Bool) := if (sub64c a0_1 a1_1 0) ≤ 1 then (if (Go.bits .and .i64 (Go.bits .xor .i64 a0_0 a1_0) (Go.bits .xor .i64 a0_0 (wrap64 (sub64s (IntKind.u64.wrap (a0_0)) (IntKind.u64.wrap (a1_0)) (sub64c a0_1 a1_1 0))))) < 0 then (some (0, 0, false)) else (some (wrap64 (sub64s (IntKind.u64.wrap (a0_0)) (IntKind.u64.wrap (a1_0)) (sub64c a0_1 a1_1 0)), sub64s a0_1 a1_1 0, true))) else (none)
set_option maxHeartbeats 8000000 in
set_option maxRecDepth 100000 in
theorem wide_Wide_Sub.calls (a0_0 : Int) (a0_1 : Int) (a1_0 : Int) (a1_1 : Int) (r1 : Int) (r2 : Int) (r3 : Bool) (w : World) (h : wide_Wide_Sub.f a0_0 a0_1 a1_0 a1_1 = some (r1, r2, r3)) :
  Calls Try.prog 78 #[.agg #[.int .i64 a0_0, .int .u64 a0_1], .agg #[.int .i64 a1_0, .int .u64 a1_1]] w fun e w' => e = .returned (.tuple #[.agg #[.int .i64 r1, .int .u64 r2], .bool r3]) ∧ Below w.heap.size w w' := by
 have hu85 := Try.underlying85
 have HB := bA (Below.refl w.heap.size w)
 have H : (if (sub64c a0_1 a1_1 0) ≤ 1 then (if (Go.bits .and .i64 (Go.bits .xor .i64 a0_0 a1_0) (Go.bits .xor .i64 a0_0 (wrap64 (sub64s (IntKind.u64.wrap (a0_0)) (IntKind.u64.wrap (a1_0)) (sub64c a0_1 a1_1 0))))) < 0 then (some (0, 0, false)) else (some (wrap64 (sub64s (IntKind.u64.wrap (a0_0)) (IntKind.u64.wrap (a1_0)) (sub64c a0_1 a1_1 0)), sub64s a0_1 a1_1 0, true))) else (none)) = some (r1, r2, r3) := h
 clear h
 by_cases c3 : (sub64c a0_1 a1_1 0) ≤ 1
 rw [if_pos c3] at H
 have c3b0 : decide ((sub64c a0_1 a1_1 0) ≤ 1) = true := decide_eq_true c3
 clear c3
 by_cases c4 : (Go.bits .and .i64 (Go.bits .xor .i64 a0_0 a1_0) (Go.bits .xor .i64 a0_0 (wrap64 (sub64s (IntKind.u64.wrap (a0_0)) (IntKind.u64.wrap (a1_0)) (sub64c a0_1 a1_1 0))))) < 0
 rw [if_pos c4] at H
 have c4b0 : decide ((Go.bits .and .i64 (Go.bits .xor .i64 a0_0 a1_0) (Go.bits .xor .i64 a0_0 (wrap64 (sub64s (IntKind.u64.wrap (a0_0)) (IntKind.u64.wrap (a1_0)) (sub64c a0_1 a1_1 0))))) < 0) = true := decide_eq_true c4
 clear c4
 simp only [Option.some.injEq, Prod.mk.injEq] at H
 obtain ⟨rfl, rfl, rfl⟩ := H
 rotate_left
 rw [if_neg c4] at H
 have c4b0 : decide ((Go.bits .and .i64 (Go.bits .xor .i64 a0_0 a1_0) (Go.bits .xor .i64 a0_0 (wrap64 (sub64s (IntKind.u64.wrap (a0_0)) (IntKind.u64.wrap (a1_0)) (sub64c a0_1 a1_1 0))))) < 0) = false := decide_eq_false c4
 clear c4
 simp only [Option.some.injEq, Prod.mk.injEq] at H
 obtain ⟨rfl, rfl, rfl⟩ := H
 rotate_left
 rw [if_neg c3] at H
 exact absurd H (by simp)
 all_goals go_enter Try.func78, Try.ntmps78
 all_goals go_wp2_with (first | ((with_reducible refine gate_dst (N := 2) rfl ?_); refine bE (N := 2) (cs := #[.int .i64 a0_0, .int .u64 a0_1]) (t := 85) ?_; intro gb263 hg wz0 hbox hb; have BK263 := bA (hbox); have GW263 := bA (bZ hg); have GE263 := bA (bZ hg); replace HB := bA (bS hb); clear hb hbox hg) | ((with_reducible refine gate_dst (N := 3) rfl ?_); refine bE (N := 3) (cs := #[.int .i64 a1_0, .int .u64 a1_1]) (t := 85) ?_; intro gb264 hg wz1 hbox hb; have BK264 := bA (hbox); have GW264 := bA (bZ hg); have GE264 := bA (bZ hg); have NB263_264 := bA (bL BK263 hg); have NB264_263 := bA (bG BK263 hg); replace BK263 := bA (bB BK263 hb); replace HB := bA (bS hb); clear hb hbox hg) | ((with_reducible refine gate_dst (N := 4) rfl ?_); refine bE (N := 4) (cs := #[.int .i64 0, .int .u64 0]) (t := 85) ?_; intro gb265 hg wz2 hbox hb; have BK265 := bA (hbox); have GW265 := bA (bZ hg); have GE265 := bA (bZ hg); have NB263_265 := bA (bL BK263 hg); have NB265_263 := bA (bG BK263 hg); have NB264_265 := bA (bL BK264 hg); have NB265_264 := bA (bG BK264 hg); replace BK263 := bA (bB BK263 hb); replace BK264 := bA (bB BK264 hb); replace HB := bA (bS hb); clear hb hbox hg; have hz1 := NB263_264.out; have hz2 := NB264_263.out; have hz3 := NB263_265.out; have hz4 := NB265_263.out; obtain ⟨hz5, hz6, hz7, hz8⟩ := bc2 BK263; have hz9 := NB264_265.out; have hz10 := NB265_264.out; obtain ⟨hz11, hz12, hz13, hz14⟩ := bc2 BK264) | ((with_reducible refine gate_dst (N := 10) rfl ?_); refine bE (N := 10) (cs := #[.int .i64 0, .int .u64 0]) (t := 85) ?_; intro gb266 hg wz3 hbox hb; have BK266 := bA (hbox); have GW266 := bA (bZ hg); have GE266 := bA (bZ hg); have NB263_266 := bA (bL BK263 hg); have NB266_263 := bA (bG BK263 hg); have NB264_266 := bA (bL BK264 hg); have NB266_264 := bA (bG BK264 hg); have NB265_266 := bA (bL BK265 hg); have NB266_265 := bA (bG BK265 hg); replace BK263 := bA (bB BK263 hb); replace BK264 := bA (bB BK264 hb); replace BK265 := bA (bB BK265 hb); replace HB := bA (bS hb); clear hb hbox hg; have hz15 := NB266_263.out; have hz16 := NB263_266.out; have hz17 := NB266_264.out; have hz18 := NB264_266.out; have hz19 := NB266_265.out; have hz20 := NB265_266.out; obtain ⟨hz21, hz22, hz23, hz24⟩ := bc2 BK266; obtain ⟨hz25, hz26, hz7, hz8⟩ := bc2 BK263; obtain ⟨hz27, hz28, hz13, hz14⟩ := bc2 BK264; obtain ⟨hz29, hz30, hz31, hz32⟩ := bc2 BK265))
 ·refine bodyPost_ret (results_ct rfl _ _ gb265 85 #[.int .i64 0, .int .u64 0] (0, 0) _ rfl (by (with_reducible repeat (first | refine blk_drewN ?_ _ | refine blk_drew ?_ | refine blk_alloc ?_ _)); refine blk_put (cs := #[.int .i64 0, .int .u64 0]) ?_ 1 _ rfl; (with_reducible repeat (first | refine blk_drewN ?_ _ | refine blk_drew ?_ | refine blk_alloc ?_ _)); refine blk_put (cs := #[.int .i64 0, .int .u64 0]) ?_ 0 _ rfl; (repeat ((with_reducible repeat (first | refine blk_drewN ?_ _ | refine blk_drew ?_ | refine blk_alloc ?_ _)); refine blk_far ?_ NB265_266.out _)); (with_reducible repeat (first | refine blk_drewN ?_ _ | refine blk_drew ?_ | refine blk_alloc ?_ _)); exact BK265.out) Try.underlying85 rfl (by kernel_rfl)) rfl ?_
  exact bF
 refine bodyPost_ret (results_ct rfl _ _ gb265 85 #[.int .i64 (wrap64 (sub64s (IntKind.u64.wrap (a0_0)) (IntKind.u64.wrap (a1_0)) (sub64c a0_1 a1_1 0))), .int .u64 (sub64s a0_1 a1_1 0)] (0, 0) _ rfl (by (with_reducible repeat (first | refine blk_drewN ?_ _ | refine blk_drew ?_ | refine blk_alloc ?_ _)); refine blk_put (cs := #[.int .i64 (wrap64 (sub64s (IntKind.u64.wrap (a0_0)) (IntKind.u64.wrap (a1_0)) (sub64c a0_1 a1_1 0))), .int .u64 0]) ?_ 1 _ rfl; (with_reducible repeat (first | refine blk_drewN ?_ _ | refine blk_drew ?_ | refine blk_alloc ?_ _)); refine blk_put (cs := #[.int .i64 0, .int .u64 0]) ?_ 0 _ rfl; (repeat ((with_reducible repeat (first | refine blk_drewN ?_ _ | refine blk_drew ?_ | refine blk_alloc ?_ _)); refine blk_far ?_ NB265_266.out _)); (with_reducible repeat (first | refine blk_drewN ?_ _ | refine blk_drew ?_ | refine blk_alloc ?_ _)); exact BK265.out) Try.underlying85 rfl (by kernel_rfl)) rfl ?_
 exact bF
/-! ### wide_Wide_Sign: function 79 -/
def wide_Wide_Sign.f (k : Nat) (a0_0 : Int) (a0_1 : Int) : Option (Int) := (wide_Wide_Cmp.f k a0_0 a0_1 0 0).bind fun t268 => (some t268)
theorem wide_Wide_Sign.mono : ∀ a0 a1 k, LeO (wide_Wide_Sign.f k a0 a1) (wide_Wide_Sign.f (k + 1) a0 a1) := by
 intro a0 a1 k
 unfold wide_Wide_Sign.f
 repeat' first
   | (with_reducible exact wide_Wide_Cmp.mono _ _ _ _ _)
   | (with_reducible exact LeO.refl _)
   | (with_reducible exact LeO.none _)
   | (with_reducible refine LeO.ite ?_ ?_)
   | (with_reducible refine LeO.bind ?_ (fun _ => ?_))
   | exact wide_Wide_Cmp.mono _ _ _ _ _
   | exact LeO.none _
   | refine LeO.ite ?_ ?_
   | refine LeO.bind ?_ (fun _ => ?_)
set_option maxHeartbeats 8000000 in
set_option maxRecDepth 100000 in
theorem wide_Wide_Sign.calls (k : Nat) (a0_0 : Int) (a0_1 : Int) (r : Int) (w : World) (h : wide_Wide_Sign.f k a0_0 a0_1 = some r) :
  Calls Try.prog 79 #[.agg #[.int .i64 a0_0, .int .u64 a0_1]] w fun e w' => e = .returned (.int .i64 r) ∧ Below w.heap.size w w' := by
 have hu85 := Try.underlying85
 have HB := bA (Below.refl w.heap.size w)
 have H : ((wide_Wide_Cmp.f k a0_0 a0_1 0 0).bind fun t268 => (some t268)) = some r := h
 clear h
 replace H := Option.bind_eq_some_iff.mp H
 obtain ⟨t268, A20, H⟩ := H
 have A2 := bA A20
 clear A20
 obtain rfl := Option.some.inj H
 go_enter Try.func79, Try.ntmps79
 go_wp2_with (first | ((with_reducible refine gate_dst (N := 1) rfl ?_); refine bE (N := 1) (cs := #[.int .i64 a0_0, .int .u64 a0_1]) (t := 85) ?_; intro gb267 hg w3 hbox hb; have BK267 := bA (hbox); have GW267 := bA (bZ hg); have GE267 := bA (bZ hg); replace HB := bA (bS hb); clear hb hbox hg; obtain ⟨hcz4_0, hcz4_1, hfz4_0, hfz4_1⟩ := bc2 BK267) | ((first | ((with_reducible refine gate_callee (f := 104) rfl ?_); refine bC (some 5) Try.func104 #[.agg #[.int .i64 a0_0, .int .u64 a0_1], .agg #[.int .i64 0, .int .u64 0]] ?_) | go_at_call 104); (with_reducible refine (wide_Wide_Cmp.calls k a0_0 a0_1 0 0 t268 _ A2.out).mono ?_); rintro e w5 ⟨rfl, hb⟩; (first | refine ⟨_, rfl, ?_⟩ | skip); replace BK267 := bA (bB BK267 hb); replace HB := bA (bS hb); (try clear hb)))
 go_ret
 exact bF
end Go.Proofs.Ytjmibjmlihmglaa.G
