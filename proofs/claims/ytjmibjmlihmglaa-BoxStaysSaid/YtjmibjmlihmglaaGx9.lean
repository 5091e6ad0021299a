-- Written by a program of this session out of the translation; Lean checks it.
import Derived.Test.YtjmibjmlihmglaaGx0
import Derived.Test.YtjmibjmlihmglaaGx5
import Derived.Test.YtjmibjmlihmglaaGx6
namespace Go.Proofs.Ytjmibjmlihmglaa.G
open Go.RowKit Go.Proofs.YtjmibjmlihmglaaW.PrintWords Go.Proofs.YtjmibjmlihmglaaW.PrintLast Go.Proofs.YtjmibjmlihmglaaW.PrintMore
attribute [local go_sem] max2_int min2_int max_two min_two max_three min_three max_four min_four   -- for this text's walks alone
set_option linter.unusedVariables false
set_option linter.unusedSimpArgs false

/-! ### box_Join: function 93 -/
def box_Join.j0 : Nat → Bool → Int → Int → Int → Int → Int → Int → Int → Int → Option (Int × Int × Int × Int)
 | 0, _, _, _, _, _, _, _, _, _ => none
 | k + 1, x5, x208000, x208001, x208002, x208003, x209000, x209001, x209002, x209003 => if x5 = true then (some (mn x208000 x209000, mn x208001 x209001, mx x208002 x209002, mx x208003 x209003)) else ((box_Right.f x208000 x208001 x208002 x208003).bind fun t212 => (if t212 = true then (some (x208000, x208001, x208002, x208003)) else ((box_Right.f x209000 x209001 x209002 x209003).bind fun t213 => (if t213 = true then (some (x209000, x209001, x209002, x209003)) else (some (0, 0, 0, 0))))))
def box_Join.f (k : Nat) (a0_0 : Int) (a0_1 : Int) (a0_2 : Int) (a0_3 : Int) (a1_0 : Int) (a1_1 : Int) (a1_2 : Int) (a1_3 : Int) : Option (Int × Int × Int × Int) := (box_Right.f a0_0 a0_1 a0_2 a0_3).bind fun t210 => (if t210 = true then ((box_Right.f a1_0 a1_1 a1_2 a1_3).bind fun t211 => (box_Join.j0 k t211 a0_0 a0_1 a0_2 a0_3 a1_0 a1_1 a1_2 a1_3)) else (box_Join.j0 k false a0_0 a0_1 a0_2 a0_3 a1_0 a1_1 a1_2 a1_3))
theorem box_Join.mono_l : ∀ k, (∀ y0 y1 y2 y3 y4 y5 y6 y7 y8, LeO (box_Join.j0 k y0 y1 y2 y3 y4 y5 y6 y7 y8) (box_Join.j0 (k + 1) y0 y1 y2 y3 y4 y5 y6 y7 y8))
 | 0 => fun _ _ _ _ _ _ _ _ _ r h => by simp [box_Join.j0] at h
 | k + 1 => by
  have ih0 := box_Join.mono_l k
  ·intro y0 y1 y2 y3 y4 y5 y6 y7 y8
   unfold box_Join.j0
   repeat' first
   | (with_reducible exact ih0 _ _ _ _ _ _ _ _ _)
   | (with_reducible exact LeO.refl _)
   | (with_reducible exact LeO.none _)
   | (with_reducible refine LeO.ite ?_ ?_)
   | (with_reducible refine LeO.bind ?_ (fun _ => ?_))
   | exact ih0 _ _ _ _ _ _ _ _ _
   | exact LeO.none _
   | refine LeO.ite ?_ ?_
   | refine LeO.bind ?_ (fun _ => ?_)
theorem box_Join.mono : ∀ a0 a1 a2 a3 a4 a5 a6 a7 k, LeO (box_Join.f k a0 a1 a2 a3 a4 a5 a6 a7) (box_Join.f (k + 1) a0 a1 a2 a3 a4 a5 a6 a7) := by
 intro a0 a1 a2 a3 a4 a5 a6 a7 k
 have ih0 := box_Join.mono_l k
 unfold box_Join.f
 repeat' first
   | (with_reducible exact ih0 _ _ _ _ _ _ _ _ _)
   | (with_reducible exact LeO.refl _)
   | (with_reducible exact LeO.none _)
   | (with_reducible refine LeO.ite ?_ ?_)
   | (with_reducible refine LeO.bind ?_ (fun _ => ?_))
   | exact ih0 _ _ _ _ _ _ _ _ _
   | exact LeO.none _
   | refine LeO.ite ?_ ?_
   | refine LeO.bind ?_ (fun _ => ?_)
set_option maxHeartbeats 8000000 in
set_option maxRecDepth 100000 in
theorem box_Join.calls (k : Nat) (a0_0 : Int) (a0_1 : Int) (a0_2 : Int) (a0_3 : Int) (a1_0 : Int) (a1_1 : Int) (a1_2 : Int) (a1_3 : Int) (r1 : Int) (r2 : Int) (r3 : Int) (r4 : Int) (w : World) (h : box_Join.f k a0_0 a0_1 a0_2 a0_3 a1_0 a1_1 a1_2 a1_3 = some (r1, r2, r3, r4)) :
  Calls Try.prog 93 #[.agg #[.int .i64 a0_0, .int .i64 a0_1, .int .i64 a0_2, .int .i64 a0_3], .agg #[.int .i64 a1_0, .int .i64 a1_1, .int .i64 a1_2, .int .i64 a1_3]] w fun e w' => e = .returned (.agg #[.int .i64 r1, .int .i64 r2, .int .i64 r3, .int .i64 r4]) ∧ Below w.heap.size w w' := by
 have hu44 := Try.underlying44
 have hu41 := Try.underlying41
 have HB := bA (Below.refl w.heap.size w)
 have H : ((box_Right.f a0_0 a0_1 a0_2 a0_3).bind fun t210 => (if t210 = true then ((box_Right.f a1_0 a1_1 a1_2 a1_3).bind fun t211 => (box_Join.j0 k t211 a0_0 a0_1 a0_2 a0_3 a1_0 a1_1 a1_2 a1_3)) else (box_Join.j0 k false a0_0 a0_1 a0_2 a0_3 a1_0 a1_1 a1_2 a1_3))) = some (r1, r2, r3, r4) := h
 clear h
 have HC3 := bA H
 clear H
 go_enter Try.func93, Try.ntmps93
 go_upto_region 1 with (first | ((with_reducible refine gate_dst (N := 2) rfl ?_); refine bE (N := 2) (cs := #[.int .i64 a0_0, .int .i64 a0_1, .int .i64 a0_2, .int .i64 a0_3]) (t := 44) ?_; intro gb207 hg w4 hbox hb; have n0_ := bA (bS hb); have n1_ := bA (hbox); have n2_ := bA (bZ hg); have n3_ := bA (bZ hg); clear HB; have HB := n0_; have BK207 := n1_; have GW207 := n2_; have GE207 := n3_; clear n0_ n1_ n2_ n3_; clear hb hbox hg) | ((with_reducible refine gate_dst (N := 3) rfl ?_); refine bE (N := 3) (cs := #[.int .i64 a1_0, .int .i64 a1_1, .int .i64 a1_2, .int .i64 a1_3]) (t := 44) ?_; intro gb208 hg w5 hbox hb; have n0_ := bA (bB BK207 hb); have n1_ := bA (bS hb); have n2_ := bA (hbox); have n3_ := bA (bZ hg); have n4_ := bA (bZ hg); have n5_ := bA (bL BK207 hg); have n6_ := bA (bG BK207 hg); clear BK207; clear HB; have BK207 := n0_; have HB := n1_; have BK208 := n2_; have GW208 := n3_; have GE208 := n4_; have NB207_208 := n5_; have NB208_207 := n6_; clear n0_ n1_ n2_ n3_ n4_ n5_ n6_; clear hb hbox hg) | ((with_reducible refine gate_dst (N := 4) rfl ?_); refine bE (N := 4) (cs := #[.int .i64 0, .int .i64 0, .int .i64 0, .int .i64 0]) (t := 44) ?_; intro gb209 hg w6 hbox hb; have n0_ := bA (bB BK207 hb); have n1_ := bA (bB BK208 hb); have n2_ := bA (bS hb); have n3_ := bA (hbox); have n4_ := bA (bZ hg); have n5_ := bA (bZ hg); have n6_ := bA (bL BK207 hg); have n7_ := bA (bG BK207 hg); have n8_ := bA (bL BK208 hg); have n9_ := bA (bG BK208 hg); clear BK207; clear BK208; clear HB; have BK207 := n0_; have BK208 := n1_; have HB := n2_; have BK209 := n3_; have GW209 := n4_; have GE209 := n5_; have NB207_209 := n6_; have NB209_207 := n7_; have NB208_209 := n8_; have NB209_208 := n9_; clear n0_ n1_ n2_ n3_ n4_ n5_ n6_ n7_ n8_ n9_; clear hb hbox hg))
 (try simp only [Act.put, List.setIfInBounds_toArray, List.set_cons_zero, List.set_cons_succ])
 go_cut [5] (fun v5 wc => ∃ (kq : Nat) (x5_2 : Bool), v5 = .bool x5_2 ∧ Aside0 (box_Join.j0 kq x5_2 a0_0 a0_1 a0_2 a0_3 a1_0 a1_1 a1_2 a1_3 = some (r1, r2, r3, r4)) ∧ Aside0 (kq ≤ k) ∧ Aside0 (wc.heap[gb207]? = some (.cells #[.int .i64 a0_0, .int .i64 a0_1, .int .i64 a0_2, .int .i64 a0_3] 44 (0, 0))) ∧ Aside0 (wc.heap[gb208]? = some (.cells #[.int .i64 a1_0, .int .i64 a1_1, .int .i64 a1_2, .int .i64 a1_3] 44 (0, 0))) ∧ Aside0 (wc.heap[gb209]? = some (.cells #[.int .i64 0, .int .i64 0, .int .i64 0, .int .i64 0] 44 (0, 0))) ∧ Aside0 (Below w.heap.size w wc))
 case first =>
  have H := HC3.out
  clear HC3
  replace H := Option.bind_eq_some_iff.mp H
  obtain ⟨t210, A70, H⟩ := H
  have A7 := bA A70
  clear A70
  by_cases c8 : t210 = true
  subst c8
  rw [if_pos rfl] at H
  replace H := Option.bind_eq_some_iff.mp H
  obtain ⟨t211, A90, H⟩ := H
  have A9 := bA A90
  clear A90
  have H' := bA H
  clear H
  have hnb10 := NB207_208.out
  have hnc10 := NB208_207.out
  have hnb11 := NB207_209.out
  have hnc11 := NB209_207.out
  obtain ⟨hcz12_0, hcz12_1, hcz12_2, hcz12_3, hfz12_0, hfz12_1, hfz12_2, hfz12_3⟩ := bc4 BK207
  rotate_left
  replace c8 := Bool.eq_false_iff.mpr c8
  subst c8
  rw [if_neg bn] at H
  have H' := bA H
  clear H
  have hnb17 := NB207_208.out
  have hnc17 := NB208_207.out
  have hnb18 := NB207_209.out
  have hnc18 := NB209_207.out
  obtain ⟨hcz19_0, hcz19_1, hcz19_2, hcz19_3, hfz19_0, hfz19_1, hfz19_2, hfz19_3⟩ := bc4 BK207
  rotate_left
  all_goals go_wp2_with (first | ((first | ((with_reducible refine gate_callee (f := 87) rfl ?_); refine bC (some 7) Try.func87 #[.agg #[.int .i64 a0_0, .int .i64 a0_1, .int .i64 a0_2, .int .i64 a0_3]] ?_) | go_at_call 87); (with_reducible refine (box_Right.calls a0_0 a0_1 a0_2 a0_3 true _ A7.out).mono ?_); rintro e wz0 ⟨rfl, hb⟩; (first | refine ⟨_, rfl, ?_⟩ | skip); replace BK207 := bA (bB BK207 hb); replace BK208 := bA (bB BK208 hb); replace BK209 := bA (bB BK209 hb); replace HB := bA (bS hb); (try clear hb); have hz1 := NB208_209.out; have hz2 := NB209_208.out; obtain ⟨hz3, hz4, hz5, hz6, hz7, hz8, hz9, hz10⟩ := bc4 BK208) | (go_at_call 87; (with_reducible refine (box_Right.calls a1_0 a1_1 a1_2 a1_3 t211 _ A9.out).mono ?_); rintro e wz1 ⟨rfl, hb⟩; replace BK207 := bA (bB BK207 hb); replace BK208 := bA (bB BK208 hb); replace BK209 := bA (bB BK209 hb); replace HB := bA (bS hb); (try clear hb)) | ((first | ((with_reducible refine gate_callee (f := 87) rfl ?_); refine bC (some 7) Try.func87 #[.agg #[.int .i64 a0_0, .int .i64 a0_1, .int .i64 a0_2, .int .i64 a0_3]] ?_) | go_at_call 87); (with_reducible refine (box_Right.calls a0_0 a0_1 a0_2 a0_3 false _ A7.out).mono ?_); rintro e wz0 ⟨rfl, hb⟩; (first | refine ⟨_, rfl, ?_⟩ | skip); replace BK207 := bA (bB BK207 hb); replace BK208 := bA (bB BK208 hb); replace BK209 := bA (bB BK209 hb); replace HB := bA (bS hb); (try clear hb)))
  ·go_meet
   case rel => exact ⟨_, (t211), bs, H', ⟨by first | omega | exact Nat.le_refl _⟩, ⟨by (with_reducible repeat (first | refine blk_drewN ?_ _ | refine blk_drew ?_ | refine blk_alloc ?_ _)); exact BK207.out⟩, ⟨by (with_reducible repeat (first | refine blk_drewN ?_ _ | refine blk_drew ?_ | refine blk_alloc ?_ _)); exact BK208.out⟩, ⟨by (with_reducible repeat (first | refine blk_drewN ?_ _ | refine blk_drew ?_ | refine blk_alloc ?_ _)); exact BK209.out⟩, ⟨bX⟩⟩
  go_meet
  case rel => exact ⟨_, (false), bs, H', ⟨by first | omega | exact Nat.le_refl _⟩, ⟨by (with_reducible repeat (first | refine blk_drewN ?_ _ | refine blk_drew ?_ | refine blk_alloc ?_ _)); exact BK207.out⟩, ⟨by (with_reducible repeat (first | refine blk_drewN ?_ _ | refine blk_drew ?_ | refine blk_alloc ?_ _)); exact BK208.out⟩, ⟨by (with_reducible repeat (first | refine blk_drewN ?_ _ | refine blk_drew ?_ | refine blk_alloc ?_ _)); exact BK209.out⟩, ⟨bX⟩⟩
 clear HC3
 try clear c1
 try clear p2
 try clear c8
 try clear c9
 try clear c10
 try clear c11
 try clear c14
 try clear c17
 try clear c18
 try clear hcz12_0
 try clear hcz12_1
 try clear hcz12_2
 try clear hcz12_3
 try clear hcz15_0
 try clear hcz15_1
 try clear hcz15_2
 try clear hcz15_3
 try clear hcz19_0
 try clear hcz19_1
 try clear hcz19_2
 try clear hcz19_3
 try clear hfz12_0
 try clear hfz12_1
 try clear hfz12_2
 try clear hfz12_3
 try clear hfz15_0
 try clear hfz15_1
 try clear hfz15_2
 try clear hfz15_3
 try clear hfz19_0
 try clear hfz19_1
 try clear hfz19_2
 try clear hfz19_3
 obtain ⟨kq, x5_2, rfl, HA, HJ2, BK207, BK208, BK209, HB⟩ := hcut
 cases kq with
 | zero => exact absurd HA.out (by simp [box_Join.j0])
 | succ kj2 =>
  have H := HA.out
  clear HA
  simp only [box_Join.j0] at H
  by_cases c21 : x5_2 = true
  subst c21
  rw [if_pos rfl] at H
  obtain ⟨ji22, hji22⟩ : ∃ j_ : Int, (mn a0_0 a1_0) = j_ := ⟨_, rfl⟩
  replace H : (some (ji22, mn a0_1 a1_1, mx a0_2 a1_2, mx a0_3 a1_3)) = some (r1, r2, r3, r4) := by first | (rw [hji22] at H; exact H) | (simp only [hji22] at H ⊢; exact H)
  have hji22_ : (if a1_0 < a0_0 then a1_0 else a0_0) = ji22 := hji22
  obtain ⟨ji23, hji23⟩ : ∃ j_ : Int, (mn a0_1 a1_1) = j_ := ⟨_, rfl⟩
  replace H : (some (ji22, ji23, mx a0_2 a1_2, mx a0_3 a1_3)) = some (r1, r2, r3, r4) := by first | (rw [hji23] at H; exact H) | (simp only [hji23] at H ⊢; exact H)
  have hji23_ : (if a1_1 < a0_1 then a1_1 else a0_1) = ji23 := hji23
  obtain ⟨ji24, hji24⟩ : ∃ j_ : Int, (mx a0_2 a1_2) = j_ := ⟨_, rfl⟩
  replace H : (some (ji22, ji23, ji24, mx a0_3 a1_3)) = some (r1, r2, r3, r4) := by first | (rw [hji24] at H; exact H) | (simp only [hji24] at H ⊢; exact H)
  have hji24_ : (if a0_2 < a1_2 then a1_2 else a0_2) = ji24 := hji24
  obtain ⟨ji25, hji25⟩ : ∃ j_ : Int, (mx a0_3 a1_3) = j_ := ⟨_, rfl⟩
  replace H : (some (ji22, ji23, ji24, ji25)) = some (r1, r2, r3, r4) := by first | (rw [hji25] at H; exact H) | (simp only [hji25] at H ⊢; exact H)
  have hji25_ : (if a0_3 < a1_3 then a1_3 else a0_3) = ji25 := hji25
  simp only [Option.some.injEq, Prod.mk.injEq] at H
  obtain ⟨rfl, rfl, rfl, rfl⟩ := H
  have hnb26 := NB207_208.out
  have hnc26 := NB208_207.out
  have hnb27 := NB207_209.out
  have hnc27 := NB209_207.out
  obtain ⟨hcz28_0, hcz28_1, hcz28_2, hcz28_3, hfz28_0, hfz28_1, hfz28_2, hfz28_3⟩ := bc4 BK207
  have hnb29 := NB208_209.out
  have hnc29 := NB209_208.out
  obtain ⟨hcz30_0, hcz30_1, hcz30_2, hcz30_3, hfz30_0, hfz30_1, hfz30_2, hfz30_3⟩ := bc4 BK208
  obtain ⟨hcz31_0, hcz31_1, hcz31_2, hcz31_3, hfz31_0, hfz31_1, hfz31_2, hfz31_3⟩ := bc4 BK209
  rotate_left
  replace c21 := Bool.eq_false_iff.mpr c21
  subst c21
  rw [if_neg bn] at H
  replace H := Option.bind_eq_some_iff.mp H
  obtain ⟨t212, A320, H⟩ := H
  have A32 := bA A320
  clear A320
  by_cases c33 : t212 = true
  subst c33
  rw [if_pos rfl] at H
  simp only [Option.some.injEq, Prod.mk.injEq] at H
  obtain ⟨rfl, rfl, rfl, rfl⟩ := H
  have hnb34 := NB207_208.out
  have hnc34 := NB208_207.out
  have hnb35 := NB207_209.out
  have hnc35 := NB209_207.out
  obtain ⟨hcz36_0, hcz36_1, hcz36_2, hcz36_3, hfz36_0, hfz36_1, hfz36_2, hfz36_3⟩ := bc4 BK207
  rotate_left
  replace c33 := Bool.eq_false_iff.mpr c33
  subst c33
  rw [if_neg bn] at H
  replace H := Option.bind_eq_some_iff.mp H
  obtain ⟨t213, A410, H⟩ := H
  have A41 := bA A410
  clear A410
  by_cases c42 : t213 = true
  subst c42
  rw [if_pos rfl] at H
  simp only [Option.some.injEq, Prod.mk.injEq] at H
  obtain ⟨rfl, rfl, rfl, rfl⟩ := H
  have hnb43 := NB207_208.out
  have hnc43 := NB208_207.out
  have hnb44 := NB207_209.out
  have hnc44 := NB209_207.out
  obtain ⟨hcz45_0, hcz45_1, hcz45_2, hcz45_3, hfz45_0, hfz45_1, hfz45_2, hfz45_3⟩ := bc4 BK207
  rotate_left
  replace c42 := Bool.eq_false_iff.mpr c42
  subst c42
  rw [if_neg bn] at H
  simp only [Option.some.injEq, Prod.mk.injEq] at H
  obtain ⟨rfl, rfl, rfl, rfl⟩ := H
  have hnb52 := NB207_208.out
  have hnc52 := NB208_207.out
  have hnb53 := NB207_209.out
  have hnc53 := NB209_207.out
  obtain ⟨hcz54_0, hcz54_1, hcz54_2, hcz54_3, hfz54_0, hfz54_1, hfz54_2, hfz54_3⟩ := bc4 BK207
  rotate_left
  all_goals go_wp2_with (first | ((first | ((with_reducible refine gate_callee (f := 87) rfl ?_); refine bC (some 45) Try.func87 #[.agg #[.int .i64 a0_0, .int .i64 a0_1, .int .i64 a0_2, .int .i64 a0_3]] ?_) | go_at_call 87); (with_reducible refine (box_Right.calls a0_0 a0_1 a0_2 a0_3 true _ A32.out).mono ?_); rintro e wz0 ⟨rfl, hb⟩; (first | refine ⟨_, rfl, ?_⟩ | skip); replace BK207 := bA (bB BK207 hb); replace BK208 := bA (bB BK208 hb); replace BK209 := bA (bB BK209 hb); replace HB := bA (bS hb); (try clear hb); obtain ⟨hz1, hz2, hz3, hz4, hz5, hz6, hz7, hz8⟩ := bc4 BK207; have hz9 := NB209_208.out; have hz10 := NB208_209.out; obtain ⟨hz11, hz12, hz13, hz14, hz15, hz16, hz17, hz18⟩ := bc4 BK209) | ((first | ((with_reducible refine gate_callee (f := 87) rfl ?_); refine bC (some 45) Try.func87 #[.agg #[.int .i64 a0_0, .int .i64 a0_1, .int .i64 a0_2, .int .i64 a0_3]] ?_) | go_at_call 87); (with_reducible refine (box_Right.calls a0_0 a0_1 a0_2 a0_3 false _ A32.out).mono ?_); rintro e wz0 ⟨rfl, hb⟩; (first | refine ⟨_, rfl, ?_⟩ | skip); replace BK207 := bA (bB BK207 hb); replace BK208 := bA (bB BK208 hb); replace BK209 := bA (bB BK209 hb); replace HB := bA (bS hb); (try clear hb); have hz10 := NB208_209.out; have hz9 := NB209_208.out; obtain ⟨hz19, hz20, hz21, hz22, hz23, hz24, hz25, hz26⟩ := bc4 BK208) | ((first | ((with_reducible refine gate_callee (f := 87) rfl ?_); refine bC (some 49) Try.func87 #[.agg #[.int .i64 a1_0, .int .i64 a1_1, .int .i64 a1_2, .int .i64 a1_3]] ?_) | go_at_call 87); (with_reducible refine (box_Right.calls a1_0 a1_1 a1_2 a1_3 true _ A41.out).mono ?_); rintro e wz1 ⟨rfl, hb⟩; (first | refine ⟨_, rfl, ?_⟩ | skip); replace BK207 := bA (bB BK207 hb); replace BK208 := bA (bB BK208 hb); replace BK209 := bA (bB BK209 hb); replace HB := bA (bS hb); (try clear hb); obtain ⟨hz27, hz28, hz29, hz30, hz23, hz24, hz25, hz26⟩ := bc4 BK208; obtain ⟨hz31, hz32, hz33, hz34, hz15, hz16, hz17, hz18⟩ := bc4 BK209) | ((first | ((with_reducible refine gate_callee (f := 87) rfl ?_); refine bC (some 49) Try.func87 #[.agg #[.int .i64 a1_0, .int .i64 a1_1, .int .i64 a1_2, .int .i64 a1_3]] ?_) | go_at_call 87); (with_reducible refine (box_Right.calls a1_0 a1_1 a1_2 a1_3 false _ A41.out).mono ?_); rintro e wz1 ⟨rfl, hb⟩; (first | refine ⟨_, rfl, ?_⟩ | skip); replace BK207 := bA (bB BK207 hb); replace BK208 := bA (bB BK208 hb); replace BK209 := bA (bB BK209 hb); replace HB := bA (bS hb); (try clear hb); obtain ⟨hz31, hz32, hz33, hz34, hz15, hz16, hz17, hz18⟩ := bc4 BK209))
  ·refine bodyPost_ret (results_cell_row rfl _ _ gb209 44 #[.int .i64 ji22, .int .i64 ji23, .int .i64 ji24, .int .i64 ji25] (0, 0) _ rfl (by (with_reducible repeat (first | refine blk_drewN ?_ _ | refine blk_drew ?_ | refine blk_alloc ?_ _)); refine blk_put (cs := #[.int .i64 ji22, .int .i64 ji23, .int .i64 ji24, .int .i64 0]) ?_ 3 _ rfl; (with_reducible repeat (first | refine blk_drewN ?_ _ | refine blk_drew ?_ | refine blk_alloc ?_ _)); refine blk_put (cs := #[.int .i64 ji22, .int .i64 ji23, .int .i64 0, .int .i64 0]) ?_ 2 _ rfl; (with_reducible repeat (first | refine blk_drewN ?_ _ | refine blk_drew ?_ | refine blk_alloc ?_ _)); refine blk_put (cs := #[.int .i64 ji22, .int .i64 0, .int .i64 0, .int .i64 0]) ?_ 1 _ rfl; (with_reducible repeat (first | refine blk_drewN ?_ _ | refine blk_drew ?_ | refine blk_alloc ?_ _)); refine blk_put (cs := #[.int .i64 0, .int .i64 0, .int .i64 0, .int .i64 0]) ?_ 0 _ rfl; (with_reducible repeat (first | refine blk_drewN ?_ _ | refine blk_drew ?_ | refine blk_alloc ?_ _)); exact BK209.out) Try.underlying44 rfl (by kernel_rfl)) rfl ?_
   exact ⟨by first | rfl | (simp [errW_none, errW_some] <;> rfl) | (simp only [← hji22, ← hji23, ← hji24, ← hji25]; first | rfl | (simp [errW_none, errW_some] <;> rfl)) | (simp [*, errW_none, errW_some] <;> rfl), by repeat (first | (with_reducible first | exact HB.out | apply below_alloc | apply pw_below_drewN | apply below_drew1 | refine below_set ?_ GE207.out | refine below_set ?_ GE208.out | refine below_set ?_ GE209.out) | exact HB.out)⟩
  ·refine bodyPost_ret (results_cell_row rfl _ _ gb209 44 #[.int .i64 a0_0, .int .i64 a0_1, .int .i64 a0_2, .int .i64 a0_3] (0, 0) _ rfl (by (with_reducible repeat (first | refine blk_drewN ?_ _ | refine blk_drew ?_ | refine blk_alloc ?_ _)); refine blk_put (cs := #[.int .i64 a0_0, .int .i64 a0_1, .int .i64 a0_2, .int .i64 0]) ?_ 3 _ rfl; (with_reducible repeat (first | refine blk_drewN ?_ _ | refine blk_drew ?_ | refine blk_alloc ?_ _)); refine blk_put (cs := #[.int .i64 a0_0, .int .i64 a0_1, .int .i64 0, .int .i64 0]) ?_ 2 _ rfl; (with_reducible repeat (first | refine blk_drewN ?_ _ | refine blk_drew ?_ | refine blk_alloc ?_ _)); refine blk_put (cs := #[.int .i64 a0_0, .int .i64 0, .int .i64 0, .int .i64 0]) ?_ 1 _ rfl; (with_reducible repeat (first | refine blk_drewN ?_ _ | refine blk_drew ?_ | refine blk_alloc ?_ _)); refine blk_put (cs := #[.int .i64 0, .int .i64 0, .int .i64 0, .int .i64 0]) ?_ 0 _ rfl; (with_reducible repeat (first | refine blk_drewN ?_ _ | refine blk_drew ?_ | refine blk_alloc ?_ _)); exact BK209.out) Try.underlying44 rfl (by kernel_rfl)) rfl ?_
   exact bF
  ·refine bodyPost_ret (results_cell_row rfl _ _ gb209 44 #[.int .i64 a1_0, .int .i64 a1_1, .int .i64 a1_2, .int .i64 a1_3] (0, 0) _ rfl (by (with_reducible repeat (first | refine blk_drewN ?_ _ | refine blk_drew ?_ | refine blk_alloc ?_ _)); refine blk_put (cs := #[.int .i64 a1_0, .int .i64 a1_1, .int .i64 a1_2, .int .i64 0]) ?_ 3 _ rfl; (with_reducible repeat (first | refine blk_drewN ?_ _ | refine blk_drew ?_ | refine blk_alloc ?_ _)); refine blk_put (cs := #[.int .i64 a1_0, .int .i64 a1_1, .int .i64 0, .int .i64 0]) ?_ 2 _ rfl; (with_reducible repeat (first | refine blk_drewN ?_ _ | refine blk_drew ?_ | refine blk_alloc ?_ _)); refine blk_put (cs := #[.int .i64 a1_0, .int .i64 0, .int .i64 0, .int .i64 0]) ?_ 1 _ rfl; (with_reducible repeat (first | refine blk_drewN ?_ _ | refine blk_drew ?_ | refine blk_alloc ?_ _)); refine blk_put (cs := #[.int .i64 0, .int .i64 0, .int .i64 0, .int .i64 0]) ?_ 0 _ rfl; (with_reducible repeat (first | refine blk_drewN ?_ _ | refine blk_drew ?_ | refine blk_alloc ?_ _)); exact BK209.out) Try.underlying44 rfl (by kernel_rfl)) rfl ?_
   exact bF
  refine bodyPost_ret (results_cell_row rfl _ _ gb209 44 #[.int .i64 0, .int .i64 0, .int .i64 0, .int .i64 0] (0, 0) _ rfl (by (with_reducible repeat (first | refine blk_drewN ?_ _ | refine blk_drew ?_ | refine blk_alloc ?_ _)); refine blk_put (cs := #[.int .i64 0, .int .i64 0, .int .i64 0, .int .i64 0]) ?_ 3 _ rfl; (with_reducible repeat (first | refine blk_drewN ?_ _ | refine blk_drew ?_ | refine blk_alloc ?_ _)); refine blk_put (cs := #[.int .i64 0, .int .i64 0, .int .i64 0, .int .i64 0]) ?_ 2 _ rfl; (with_reducible repeat (first | refine blk_drewN ?_ _ | refine blk_drew ?_ | refine blk_alloc ?_ _)); refine blk_put (cs := #[.int .i64 0, .int .i64 0, .int .i64 0, .int .i64 0]) ?_ 1 _ rfl; (with_reducible repeat (first | refine blk_drewN ?_ _ | refine blk_drew ?_ | refine blk_alloc ?_ _)); refine blk_put (cs := #[.int .i64 0, .int .i64 0, .int .i64 0, .int .i64 0]) ?_ 0 _ rfl; (with_reducible repeat (first | refine blk_drewN ?_ _ | refine blk_drew ?_ | refine blk_alloc ?_ _)); exact BK209.out) Try.underlying44 rfl (by kernel_rfl)) rfl ?_
  exact bF
/-! ### poly_Simple_1: function 66 -/
def poly_Simple_1.f (a0_0 : Int) (a0_1 : Int) : Option (Bool) := (point_Right.f a0_0 a0_1).bind fun t215 => (some (!t215))
set_option maxHeartbeats 8000000 in
set_option maxRecDepth 100000 in
theorem poly_Simple_1.calls (a0_0 : Int) (a0_1 : Int) (r : Bool) (w : World) (h : poly_Simple_1.f a0_0 a0_1 = some r) :
  Calls Try.prog 66 #[.agg #[.int .i64 a0_0, .int .i64 a0_1]] w fun e w' => e = .returned (.bool r) ∧ Below w.heap.size w w' := by
 have hu41 := Try.underlying41
 have HB := bA (Below.refl w.heap.size w)
 have H : ((point_Right.f a0_0 a0_1).bind fun t215 => (some (!t215))) = some r := h
 clear h
 replace H := Option.bind_eq_some_iff.mp H
 obtain ⟨t215, A20, H⟩ := H
 have A2 := bA A20
 clear A20
 obtain rfl := Option.some.inj H
 go_enter Try.func66, Try.ntmps66
 go_wp2_with (first | ((with_reducible refine gate_dst (N := 1) rfl ?_); refine bE (N := 1) (cs := #[.int .i64 a0_0, .int .i64 a0_1]) (t := 41) ?_; intro gb214 hg w3 hbox hb; have BK214 := bA (hbox); have GW214 := bA (bZ hg); have GE214 := bA (bZ hg); replace HB := bA (bS hb); clear hb hbox hg; obtain ⟨hcz4_0, hcz4_1, hfz4_0, hfz4_1⟩ := bc2 BK214) | ((first | ((with_reducible refine gate_callee (f := 67) rfl ?_); refine bC (some 4) Try.func67 #[.agg #[.int .i64 a0_0, .int .i64 a0_1]] ?_) | go_at_call 67); (with_reducible refine (point_Right.calls a0_0 a0_1 t215 _ A2.out).mono ?_); rintro e w5 ⟨rfl, hb⟩; (first | refine ⟨_, rfl, ?_⟩ | skip); replace BK214 := bA (bB BK214 hb); replace HB := bA (bS hb); (try clear hb)))
 go_ret
 exact bF
/-! ### slices_IndexFunc_Point_F_poly_Simple_1: function 1000004 -/
def slices_IndexFunc_Point_F_poly_Simple_1.l0 : Nat → List (S41) → Int → Int → Option (Int)
 | 0, _, _, _ => none
 | k + 1, x0, x7, x8 => if x8 < x7 then (if 0 ≤ x8 then (if x8 < (x0.length : Int) then ((poly_Simple_1.f ((rd_T41 x0 x8).f0) ((rd_T41 x0 x8).f1)).bind fun t217 => (if t217 = true then (some x8) else (slices_IndexFunc_Point_F_poly_Simple_1.l0 k x0 x7 (wrap64 (x8 + 1))))) else (none)) else (none)) else (some (-1))
def slices_IndexFunc_Point_F_poly_Simple_1.f (k : Nat) (l0 : List (S41))  : Option (Int) := slices_IndexFunc_Point_F_poly_Simple_1.l0 k l0 (l0.length : Int) 0
theorem slices_IndexFunc_Point_F_poly_Simple_1.mono_l : ∀ k, (∀ y0 y1 y2, LeO (slices_IndexFunc_Point_F_poly_Simple_1.l0 k y0 y1 y2) (slices_IndexFunc_Point_F_poly_Simple_1.l0 (k + 1) y0 y1 y2))
 | 0 => fun _ _ _ r h => by simp [slices_IndexFunc_Point_F_poly_Simple_1.l0] at h
 | k + 1 => by
  have ih0 := slices_IndexFunc_Point_F_poly_Simple_1.mono_l k
  ·intro y0 y1 y2
   unfold slices_IndexFunc_Point_F_poly_Simple_1.l0
   repeat' first
   | (with_reducible exact ih0 _ _ _)
   | (with_reducible exact LeO.refl _)
   | (with_reducible exact LeO.none _)
   | (with_reducible refine LeO.ite ?_ ?_)
   | (with_reducible refine LeO.bind ?_ (fun _ => ?_))
   | exact ih0 _ _ _
   | exact LeO.none _
   | refine LeO.ite ?_ ?_
   | refine LeO.bind ?_ (fun _ => ?_)
theorem slices_IndexFunc_Point_F_poly_Simple_1.mono : ∀ a0 k, LeO (slices_IndexFunc_Point_F_poly_Simple_1.f k a0) (slices_IndexFunc_Point_F_poly_Simple_1.f (k + 1) a0) := by
 intro a0 k
 have ih0 := slices_IndexFunc_Point_F_poly_Simple_1.mono_l k
 unfold slices_IndexFunc_Point_F_poly_Simple_1.f
 repeat' first
   | (with_reducible exact ih0 _ _ _)
   | (with_reducible exact LeO.refl _)
   | (with_reducible exact LeO.none _)
   | (with_reducible refine LeO.ite ?_ ?_)
   | (with_reducible refine LeO.bind ?_ (fun _ => ?_))
   | exact ih0 _ _ _
   | exact LeO.none _
   | refine LeO.ite ?_ ?_
   | refine LeO.bind ?_ (fun _ => ?_)
set_option maxHeartbeats 8000000 in
set_option maxRecDepth 100000 in
theorem slices_IndexFunc_Point_F_poly_Simple_1.calls (k : Nat) (A0 : Option Addr) (c0 : Nat) (l0 : List (S41))  (r : Int) (w : World) (hr0 : Kd.C k41 w A0 l0.length l0) (hc0 : l0.length ≤ c0) (h : slices_IndexFunc_Point_F_poly_Simple_1.f k l0 = some r) :
  Calls Try.prog 102 #[.slice A0 l0.length c0, .func (.func 66) #[] #[]] w fun e w' => e = .returned (.int .i64 r) ∧ Below w.heap.size w w' := by
 have hu41 := Try.underlying41
 have HR0 := bA hr0
 have HC0 := bA hc0
 clear hr0 hc0
 have HB := bA (Below.refl w.heap.size w)
 have H : (slices_IndexFunc_Point_F_poly_Simple_1.l0 k l0 (l0.length : Int) 0) = some r := h
 clear h
 have H' := bA H
 clear H
 go_enter Try.func102, Try.ntmps102
 go_wp2
 go_loopg [8] k (fun kq v8 w' => ∃ (x8_1 : Int), v8 = .int .i64 x8_1 ∧ Aside0 (slices_IndexFunc_Point_F_poly_Simple_1.l0 kq l0 (l0.length : Int) x8_1 = some r) ∧ Aside0 (kq ≤ k) ∧ Aside0 (Below w.heap.size w w'))
 case atStart => exact ⟨(0), bs, H', ⟨Nat.le_refl _⟩, ⟨bX⟩⟩
 clear H'
 try clear c1
 try clear p2
 obtain ⟨x8_1, rfl, HA, HK1, HB⟩ := hrel
 cases gk with
 | zero => exact absurd HA.out (by simp [slices_IndexFunc_Point_F_poly_Simple_1.l0])
 | succ k1 =>
  have H := HA.out
  clear HA
  simp only [slices_IndexFunc_Point_F_poly_Simple_1.l0] at H
  by_cases c3 : x8_1 < (l0.length : Int)
  rw [if_pos c3] at H
  have c3b0 : decide (x8_1 < (l0.length : Int)) = true := decide_eq_true c3
  clear c3
  by_cases c4 : 0 ≤ x8_1
  rw [if_pos c4] at H
  have c4b0 : decide (0 ≤ x8_1) = true := decide_eq_true c4
  clear c4
  by_cases c5 : x8_1 < (l0.length : Int)
  rw [if_pos c5] at H
  have c5b0 : decide (x8_1 < (l0.length : Int)) = true := decide_eq_true c5
  clear c5
  replace H := Option.bind_eq_some_iff.mp H
  obtain ⟨t217, A60, H⟩ := H
  have A6 := bA A60
  clear A60
  by_cases c7 : t217 = true
  subst c7
  rw [if_pos rfl] at H
  obtain rfl := Option.some.inj H
  have p216 : 0 ≤ (x8_1 : Int) := bo
  have q216 : x8_1 < (l0.length : Int) := bo
  obtain ⟨ad216, e216, hx216_0, hx216_1⟩ := at_T41 HR0.out x8_1 p216 q216
  cases e216
  replace hx216_0 := bK hx216_0
  replace hx216_1 := bK hx216_1
  replace p216 := eq_true p216
  replace q216 := eq_true q216
  rotate_left
  replace c7 := Bool.eq_false_iff.mpr c7
  subst c7
  rw [if_neg bn] at H
  have H' := bA H
  clear H
  have p216 : 0 ≤ (x8_1 : Int) := bo
  have q216 : x8_1 < (l0.length : Int) := bo
  obtain ⟨ad216, e216, hx216_0, hx216_1⟩ := at_T41 HR0.out x8_1 p216 q216
  cases e216
  replace hx216_0 := bK hx216_0
  replace hx216_1 := bK hx216_1
  replace p216 := eq_true p216
  replace q216 := eq_true q216
  rotate_left
  rw [if_neg c5] at H
  exact absurd H (by simp)
  rw [if_neg c4] at H
  exact absurd H (by simp)
  rw [if_neg c3] at H
  have c3b0 : decide (x8_1 < (l0.length : Int)) = false := decide_eq_false c3
  clear c3
  obtain rfl := Option.some.inj H
  rotate_left
  all_goals go_wp2_with (first | (go_at_call 66; (with_reducible refine (poly_Simple_1.calls ((rd_T41 l0 x8_1).f0) ((rd_T41 l0 x8_1).f1) true _ A6.out).mono ?_); rintro e wz0 ⟨rfl, hb⟩; replace HB := bA (bS hb); (try clear hb)) | (go_at_call 66; (with_reducible refine (poly_Simple_1.calls ((rd_T41 l0 x8_1).f0) ((rd_T41 l0 x8_1).f1) false _ A6.out).mono ?_); rintro e wz0 ⟨rfl, hb⟩; replace HB := bA (bS hb); (try clear hb)))
  ·go_ret
   exact bF
  ·go_roundg k1
   case measure => have := HK1.out; omega
   case rel => exact ⟨(wrap64 (x8_1 + 1)), bs, H', ⟨by have := HK1.out; omega⟩, ⟨bX⟩⟩
  go_ret
  exact bF
/-! ### slices_ContainsFunc_Point_F_poly_Simple_1: function 1000003 -/
def slices_ContainsFunc_Point_F_poly_Simple_1.f (k : Nat) (l0 : List (S41))  : Option (Bool) := (slices_IndexFunc_Point_F_poly_Simple_1.f k l0).bind fun t218 => (some (decide (t218 ≥ 0)))
theorem slices_ContainsFunc_Point_F_poly_Simple_1.mono : ∀ a0 k, LeO (slices_ContainsFunc_Point_F_poly_Simple_1.f k a0) (slices_ContainsFunc_Point_F_poly_Simple_1.f (k + 1) a0) := by
 intro a0 k
 unfold slices_ContainsFunc_Point_F_poly_Simple_1.f
 repeat' first
   | (with_reducible exact slices_IndexFunc_Point_F_poly_Simple_1.mono _ _)
   | (with_reducible exact LeO.refl _)
   | (with_reducible exact LeO.none _)
   | (with_reducible refine LeO.ite ?_ ?_)
   | (with_reducible refine LeO.bind ?_ (fun _ => ?_))
   | exact slices_IndexFunc_Point_F_poly_Simple_1.mono _ _
   | exact LeO.none _
   | refine LeO.ite ?_ ?_
   | refine LeO.bind ?_ (fun _ => ?_)
set_option maxHeartbeats 8000000 in
set_option maxRecDepth 100000 in
theorem slices_ContainsFunc_Point_F_poly_Simple_1.calls (k : Nat) (A0 : Option Addr) (c0 : Nat) (l0 : List (S41))  (r : Bool) (w : World) (hr0 : Kd.C k41 w A0 l0.length l0) (hc0 : l0.length ≤ c0) (h : slices_ContainsFunc_Point_F_poly_Simple_1.f k l0 = some r) :
  Calls Try.prog 65 #[.slice A0 l0.length c0, .func (.func 66) #[] #[]] w fun e w' => e = .returned (.bool r) ∧ Below w.heap.size w w' := by
 have HR0 := bA hr0
 have HC0 := bA hc0
 clear hr0 hc0
 have HB := bA (Below.refl w.heap.size w)
 have H : ((slices_IndexFunc_Point_F_poly_Simple_1.f k l0).bind fun t218 => (some (decide (t218 ≥ 0)))) = some r := h
 clear h
 replace H := Option.bind_eq_some_iff.mp H
 obtain ⟨t218, A30, H⟩ := H
 have A3 := bA A30
 clear A30
 obtain rfl := Option.some.inj H
 go_enter Try.func65, Try.ntmps65
 go_wp2_with (first | ((first | ((with_reducible refine gate_callee (f := 102) rfl ?_); refine bC (some 7) Try.func102 #[.slice A0 l0.length c0, .func (.func 66) #[] #[]] ?_) | go_at_call 102); (with_reducible refine (slices_IndexFunc_Point_F_poly_Simple_1.calls k _ _ l0  t218 _ ?side1 ?side2 A3.out).mono ?_); (case side1 => repeat (first | exact HR0.out | (with_reducible refine Kd.C_alloc ?_ _) | (with_reducible refine Kd.C_drewN ?_ _) | (with_reducible refine Kd.C_drew ?_))); (case side2 => exact HC0.out); rintro e w4 ⟨rfl, hb⟩; (first | refine ⟨_, rfl, ?_⟩ | skip); replace HB := bA (bS hb); (try clear hb)))
 go_ret
 exact bF
/-! ### poly_edge: function 73 -/
def poly_edge.f (l0 : List (S41)) (a1 : Int) : Option (Int × Int × Int × Int) := if 0 ≤ a1 then (if a1 < (l0.length : Int) then (if (l0.length : Int) = 0 then (none) else (if 0 ≤ (Int.tmod (wrap64 (a1 + 1)) (l0.length : Int)) then (if (Int.tmod (wrap64 (a1 + 1)) (l0.length : Int)) < (l0.length : Int) then (some ((rd_T41 l0 a1).f0, (rd_T41 l0 a1).f1, (rd_T41 l0 (Int.tmod (wrap64 (a1 + 1)) (l0.length : Int))).f0, (rd_T41 l0 (Int.tmod (wrap64 (a1 + 1)) (l0.length : Int))).f1)) else (none)) else (none))) else (none)) else (none)
def poly_edge.T1 : Bool × List (List Nat × List Nat) := (true, [([], []), ([], []), ([0, 1], [0, 1]), ([2], [2]), ([], []), ([], []), ([5], [5]), ([], []), ([7], [7]), ([6, 8], [6, 8]), ([4, 9], [4, 9]), ([10], [10]), ([3, 0, 1, 2, 3], [3]), ([11, 12, 0, 1, 2, 3, 4, 5, 6, 7, 8, 9, 10, 11, 12], [11])])
def poly_edge.B1 : List Nat := [0, 0, 3, 7, 0, 0, 32, 0, 128, 480, 1008, 2032, 15, 8191]
theorem poly_edge.tab1 : rtab .any (opsOf Try.f73 1) = poly_edge.T1 := by kernel_rfl
theorem poly_edge.bits1 : waitsOk poly_edge.T1.2 poly_edge.B1 = true := by kernel_rfl
set_option maxHeartbeats 8000000 in
set_option maxRecDepth 100000 in
theorem poly_edge.calls (A0 : Option Addr) (c0 : Nat) (l0 : List (S41)) (a1 : Int) (r1 : Int) (r2 : Int) (r3 : Int) (r4 : Int) (w : World) (hr0 : Kd.C k41 w A0 l0.length l0) (hc0 : l0.length ≤ c0) (h : poly_edge.f l0 a1 = some (r1, r2, r3, r4)) :
  Calls Try.prog 73 #[.slice A0 l0.length c0, .int .i64 a1] w fun e w' => e = .returned (.tuple #[.agg #[.int .i64 r1, .int .i64 r2], .agg #[.int .i64 r3, .int .i64 r4]]) ∧ Below w.heap.size w w' := by
 have hu41 := Try.underlying41
 have HR0 := bA hr0
 have HC0 := bA hc0
 clear hr0 hc0
 have HB := bA (Below.refl w.heap.size w)
 have H : (if 0 ≤ a1 then (if a1 < (l0.length : Int) then (if (l0.length : Int) = 0 then (none) else (if 0 ≤ (Int.tmod (wrap64 (a1 + 1)) (l0.length : Int)) then (if (Int.tmod (wrap64 (a1 + 1)) (l0.length : Int)) < (l0.length : Int) then (some ((rd_T41 l0 a1).f0, (rd_T41 l0 a1).f1, (rd_T41 l0 (Int.tmod (wrap64 (a1 + 1)) (l0.length : Int))).f0, (rd_T41 l0 (Int.tmod (wrap64 (a1 + 1)) (l0.length : Int))).f1)) else (none)) else (none))) else (none)) else (none)) = some (r1, r2, r3, r4) := h
 clear h
 by_cases c3 : 0 ≤ a1
 rotate_left
 ·rw [if_neg c3] at H
  exact absurd H (by simp)
 rw [if_pos c3] at H
 have c3b0 : decide (0 ≤ a1) = true := decide_eq_true c3
 clear c3
 by_cases c4 : a1 < (l0.length : Int)
 rotate_left
 ·rw [if_neg c4] at H
  exact absurd H (by simp)
 rw [if_pos c4] at H
 have c4b0 : decide (a1 < (l0.length : Int)) = true := decide_eq_true c4
 clear c4
 by_cases c5 : (l0.length : Int) = 0
 ·rw [if_pos c5] at H
  exact absurd H (by simp)
 rw [if_neg c5] at H
 have c5b0 : ((l0.length : Int) == 0) = false := beq_eq_false_iff_ne.mpr c5
 have c5b1 : ((l0.length : Int) != 0) = true := bne_iff_ne.mpr c5
 have c5b2 : ¬ (l0 = []) := fun h_ => c5 (by rw [h_]; rfl)
 obtain ⟨ji6, hji6⟩ : ∃ j_ : Int, (Int.tmod (wrap64 (a1 + 1)) (l0.length : Int)) = j_ := ⟨_, rfl⟩
 replace H : (if 0 ≤ (ji6) then (if (ji6) < (l0.length : Int) then (some ((rd_T41 l0 a1).f0, (rd_T41 l0 a1).f1, (rd_T41 l0 (ji6)).f0, (rd_T41 l0 (ji6)).f1)) else (none)) else (none)) = some (r1, r2, r3, r4) := by first | (rw [hji6] at H; exact H) | (simp only [hji6] at H ⊢; exact H)
 by_cases c7 : 0 ≤ (ji6)
 rotate_left
 ·rw [if_neg c7] at H
  exact absurd H (by simp)
 rw [if_pos c7] at H
 have c7b0 : decide (0 ≤ (ji6)) = true := decide_eq_true c7
 clear c7
 by_cases c8 : (ji6) < (l0.length : Int)
 rotate_left
 ·rw [if_neg c8] at H
  exact absurd H (by simp)
 rw [if_pos c8] at H
 have c8b0 : decide ((ji6) < (l0.length : Int)) = true := decide_eq_true c8
 clear c8
 simp only [Option.some.injEq, Prod.mk.injEq] at H
 obtain ⟨rfl, rfl, rfl, rfl⟩ := H
 go_enter Try.func73, Try.ntmps73
 try go_wp2_with (first | ((with_reducible refine gate_dst (N := 4) rfl ?_); refine bE (N := 4) (cs := #[.int .i64 0, .int .i64 0]) (t := 41) ?_; intro gb219 hg w9 hbox hb; have BK219 := bA (hbox); have GW219 := bA (bZ hg); have GE219 := bA (bZ hg); replace HB := bA (bS hb); clear hb hbox hg) | ((with_reducible refine gate_dst (N := 5) rfl ?_); refine bE (N := 5) (cs := #[.int .i64 0, .int .i64 0]) (t := 41) ?_; intro gb220 hg w10 hbox hb; have BK220 := bA (hbox); have GW220 := bA (bZ hg); have GE220 := bA (bZ hg); have NB219_220 := bA (bL BK219 hg); have NB220_219 := bA (bG BK219 hg); replace BK219 := bA (bB BK219 hb); replace HB := bA (bS hb); clear hb hbox hg))
 replace BK219 := bA (blk_drew BK219.out)
 replace BK220 := bA (blk_drew BK220.out)
 replace HB := bA (below_drew1 HB.out)
 have p221 : 0 ≤ (a1 : Int) := bo
 have q221 : a1 < (l0.length : Int) := bo
 obtain ⟨ad221, e221, hx221_0, hx221_1⟩ := at_T41 HR0.out a1 p221 q221
 have hw221_1 := hx221_1
 have hw221_0 := hx221_0
 cases e221
 replace hx221_0 := bK hx221_0
 replace hx221_1 := bK hx221_1
 replace p221 := eq_true p221
 replace q221 := eq_true q221
 have p222 : 0 ≤ ((ji6) : Int) := bo
 have q222 : (ji6) < (l0.length : Int) := bo
 obtain ⟨ad222, e222, hx222_0, hx222_1⟩ := at_T41 HR0.out (ji6) p222 q222
 have hw222_1 := hx222_1
 have hw222_0 := hx222_0
 obtain rfl : ad221 = ad222 := (by injection e222)
 replace hx222_0 := bK hx222_0
 replace hx222_1 := bK hx222_1
 replace p222 := eq_true p222
 replace q222 := eq_true q222
 refine start_ (n := 14) (S := fun w' => w'.cell? (ad221.add ((a1).toNat * 2)) = some (.int .i64 ((rd_T41 l0 a1).f0)) ∧ w'.cell? ⟨(ad221.add ((a1).toNat * 2)).block, (ad221.add ((a1).toNat * 2)).off + 1, none⟩ = some (.int .i64 ((rd_T41 l0 a1).f1)) ∧ w'.cell? (ad221.add (((ji6)).toNat * 2)) = some (.int .i64 ((rd_T41 l0 (ji6)).f0)) ∧ w'.cell? ⟨(ad221.add (((ji6)).toNat * 2)).block, (ad221.add (((ji6)).toNat * 2)).off + 1, none⟩ = some (.int .i64 ((rd_T41 l0 (ji6)).f1))) (ds := []) #[false,false,false,false,false,false,false,false,false,false,false,false,false,false] (by kernel_rfl) rfl rfl ⟨(bK hw221_0), (bK hw221_1), (bK hw222_0), (bK hw222_1)⟩ (fun hHeld => ?_); refine with_tabW poly_edge.tab1 poly_edge.bits1 (fun HT_ HW_ => ?_)
 generalize w10.drew = w11 at BK219 BK220 HB hx221_0 hx221_1 hx222_0 hx222_1 hHeld ⊢
 refine bU (i := 0) (N := some 6) ?_
 refine bU (i := 1) (N := some 7) ?_
 refine bU (i := 2) (N := some 8) ?_
 refine bU (i := 4) (N := some 10) ?_
 refine bU (i := 5) (N := some 11) ?_
 refine bU (i := 6) (N := some 12) ?_
 refine bU (i := 7) (N := some 13) ?_
 refine bU (i := 8) (N := some 14) ?_
 refine bU (i := 9) (N := some 15) ?_
 refine bU (i := 10) (N := some 16) ?_
 refine bW (i := 3) (N := some 9) hHeld ?_
 refine bW (i := 11) (N := some 17) hHeld ?_
 refine one_ (i := 12) (N := none) #[true,true,true,true,true,true,true,true,true,true,true,true,true,false] rfl rfl (one_of HT_.out (by kernel_rfl)) (by decide) (fun K hK => ?_)
 have hs12 : w11.cell? ⟨gb219, 0, none⟩ = some (.int .i64 0) := bq BK219 0
 have hfs12 := blk_frozen BK219.out 0
 have hns12_1 := NB220_219.out
 have hms12_1 := NB219_220.out
 have hs13 : w11.cell? ⟨gb219, 1, none⟩ = some (.int .i64 0) := bq BK219 1
 have hfs13 := blk_frozen BK219.out 1
 have hns13_1 := NB220_219.out
 have hms13_1 := NB219_220.out
 refine skip_ (w1 := ?_) (by rfl) rfl ?_ ?_
 rotate_left
 ·go_simp
  rfl
 refine hK.out _ _ ⟨((bV hw221_0 GW219).trans (((bV hw221_0 GW219).trans (hHeld.1)))), ((bV hw221_1 GW219).trans (((bV hw221_1 GW219).trans (hHeld.2.1)))), ((bV hw222_0 GW219).trans (((bV hw222_0 GW219).trans (hHeld.2.2.1)))), ((bV hw222_1 GW219).trans (((bV hw222_1 GW219).trans (hHeld.2.2.2))))⟩ (fun hHeld => ?_)
 clear hK K
 refine one_ (i := 13) (N := none) #[true,true,true,true,true,true,true,true,true,true,true,true,true,true] rfl rfl (one_of HT_.out (by kernel_rfl)) (by decide) (fun K hK => ?_)
 have hs14 : w11.cell? ⟨gb220, 0, none⟩ = some (.int .i64 0) := bq BK220 0
 have hfs14 := blk_frozen BK220.out 0
 have hns14_0 := NB219_220.out
 have hms14_0 := NB220_219.out
 have hs15 : w11.cell? ⟨gb220, 1, none⟩ = some (.int .i64 0) := bq BK220 1
 have hfs15 := blk_frozen BK220.out 1
 have hns15_0 := NB219_220.out
 have hms15_0 := NB220_219.out
 refine skip_ (w1 := ?_) (by rfl) rfl ?_ ?_
 rotate_left
 ·go_simp
  rfl
 refine hK.out _ _ ⟨((bV hw221_0 GW220).trans (((bV hw221_0 GW220).trans (hHeld.1)))), ((bV hw221_1 GW220).trans (((bV hw221_1 GW220).trans (hHeld.2.1)))), ((bV hw222_0 GW220).trans (((bV hw222_0 GW220).trans (hHeld.2.2.1)))), ((bV hw222_1 GW220).trans (((bV hw222_1 GW220).trans (hHeld.2.2.2))))⟩ (fun hHeld => ?_)
 clear hK K
 refine done_ (done_of HT_.out (by kernel_rfl)) ?_
 try go_wp2
 refine bodyPost_ret (results_cc rfl _ _ gb219 gb220 41 41 #[.int .i64 ((rd_T41 l0 a1).f0), .int .i64 ((rd_T41 l0 a1).f1)] #[.int .i64 ((rd_T41 l0 (ji6)).f0), .int .i64 ((rd_T41 l0 (ji6)).f1)] (0, 0) (0, 0) _ _ rfl (by (repeat ((with_reducible repeat (first | refine blk_drewN ?_ _ | refine blk_drew ?_ | refine blk_alloc ?_ _)); refine blk_far ?_ NB219_220.out _)); (with_reducible repeat (first | refine blk_drewN ?_ _ | refine blk_drew ?_ | refine blk_alloc ?_ _)); refine blk_put (cs := #[.int .i64 ((rd_T41 l0 a1).f0), .int .i64 0]) ?_ 1 _ rfl; (with_reducible repeat (first | refine blk_drewN ?_ _ | refine blk_drew ?_ | refine blk_alloc ?_ _)); refine blk_put (cs := #[.int .i64 0, .int .i64 0]) ?_ 0 _ rfl; (with_reducible repeat (first | refine blk_drewN ?_ _ | refine blk_drew ?_ | refine blk_alloc ?_ _)); exact BK219.out) Try.underlying41 rfl (by kernel_rfl) rfl (by (with_reducible repeat (first | refine blk_drewN ?_ _ | refine blk_drew ?_ | refine blk_alloc ?_ _)); refine blk_put (cs := #[.int .i64 ((rd_T41 l0 (ji6)).f0), .int .i64 0]) ?_ 1 _ rfl; (with_reducible repeat (first | refine blk_drewN ?_ _ | refine blk_drew ?_ | refine blk_alloc ?_ _)); refine blk_put (cs := #[.int .i64 0, .int .i64 0]) ?_ 0 _ rfl; (repeat ((with_reducible repeat (first | refine blk_drewN ?_ _ | refine blk_drew ?_ | refine blk_alloc ?_ _)); refine blk_far ?_ NB220_219.out _)); (with_reducible repeat (first | refine blk_drewN ?_ _ | refine blk_drew ?_ | refine blk_alloc ?_ _)); exact BK220.out) Try.underlying41 rfl (by kernel_rfl)) rfl ?_
 exact ⟨by first | rfl | (simp [errW_none, errW_some] <;> rfl) | (simp only [← hji6]; first | rfl | (simp [errW_none, errW_some] <;> rfl)) | (simp [*, errW_none, errW_some] <;> rfl), by repeat (first | (with_reducible first | exact HB.out | apply below_alloc | apply pw_below_drewN | apply below_drew1 | refine below_set ?_ GE219.out | refine below_set ?_ GE220.out) | exact HB.out)⟩
/-! ### point_between: function 86 -/
def point_between.f (a0 : Int) (a1 : Int) (a2 : Int) : Option (Bool) := if (mn a1 a2) ≤ a0 then (some (decide (a0 ≤ (mx a1 a2)))) else (some false)
set_option maxHeartbeats 8000000 in
set_option maxRecDepth 100000 in
theorem point_between.calls (a0 : Int) (a1 : Int) (a2 : Int) (r : Bool) (w : World) (h : point_between.f a0 a1 a2 = some r) :
  Calls Try.prog 86 #[.int .i64 a0, .int .i64 a1, .int .i64 a2] w fun e w' => e = .returned (.bool r) ∧ Below w.heap.size w w' := by
 have HB := bA (Below.refl w.heap.size w)
 have H : (if (mn a1 a2) ≤ a0 then (some (decide (a0 ≤ (mx a1 a2)))) else (some false)) = some r := h
 clear h
 obtain ⟨ji4, hji4⟩ : ∃ j_ : Int, (mn a1 a2) = j_ := ⟨_, rfl⟩
 replace H : (if (ji4) ≤ a0 then (some (decide (a0 ≤ (mx a1 a2)))) else (some false)) = some r := by first | (rw [hji4] at H; exact H) | (simp only [hji4] at H ⊢; exact H)
 have hji4_ : (if a2 < a1 then a2 else a1) = ji4 := hji4
 by_cases c5 : (ji4) ≤ a0
 rw [if_pos c5] at H
 have c5b0 : decide ((ji4) ≤ a0) = true := decide_eq_true c5
 clear c5
 obtain ⟨ji6, hji6⟩ : ∃ j_ : Int, (mx a1 a2) = j_ := ⟨_, rfl⟩
 replace H : (some (decide (a0 ≤ (ji6)))) = some r := by first | (rw [hji6] at H; exact H) | (simp only [hji6] at H ⊢; exact H)
 have hji6_ : (if a1 < a2 then a2 else a1) = ji6 := hji6
 obtain rfl := Option.some.inj H
 rotate_left
 rw [if_neg c5] at H
 have c5b0 : decide ((ji4) ≤ a0) = false := decide_eq_false c5
 clear c5
 obtain rfl := Option.some.inj H
 rotate_left
 all_goals go_enter Try.func86, Try.ntmps86
 all_goals go_wp2
 ·go_ret
  exact ⟨by first | rfl | (simp [errW_none, errW_some] <;> rfl) | (simp only [← hji4, ← hji6]; first | rfl | (simp [errW_none, errW_some] <;> rfl)) | (simp [*, errW_none, errW_some] <;> rfl), by repeat (first | (with_reducible first | exact HB.out | apply below_alloc | apply pw_below_drewN | apply below_drew1) | exact HB.out)⟩
 go_ret
 exact ⟨by first | rfl | (simp [errW_none, errW_some] <;> rfl) | (simp only [← hji4]; first | rfl | (simp [errW_none, errW_some] <;> rfl)) | (simp [*, errW_none, errW_some] <;> rfl), by repeat (first | (with_reducible first | exact HB.out | apply below_alloc | apply pw_below_drewN | apply below_drew1) | exact HB.out)⟩
/-! ### point_On: function 41 -/
def point_On.f (k : Nat) (a0_0 : Int) (a0_1 : Int) (a1_0 : Int) (a1_1 : Int) (a2_0 : Int) (a2_1 : Int) : Option (Bool) := (point_right.f k (([(⟨a0_0, a0_1⟩ : S41), (⟨a1_0, a1_1⟩ : S41), (⟨a2_0, a2_1⟩ : S41)] : List (S41)))).bind fun t229 => (if t229 = true then ((point_Turn.f k a1_0 a1_1 a2_0 a2_1 a0_0 a0_1).bind fun t230 => (if t230 = 0 then ((point_between.f a0_0 a1_0 a2_0).bind fun t231 => (if t231 = true then ((point_between.f a0_1 a1_1 a2_1).bind fun t232 => (some t232)) else (some false))) else (some false))) else (some false))
theorem point_On.mono : ∀ a0 a1 a2 a3 a4 a5 k, LeO (point_On.f k a0 a1 a2 a3 a4 a5) (point_On.f (k + 1) a0 a1 a2 a3 a4 a5) := by
 intro a0 a1 a2 a3 a4 a5 k
 unfold point_On.f
 repeat' first
   | (with_reducible exact point_Turn.mono _ _ _ _ _ _ _)
   | (with_reducible exact point_right.mono _ _)
   | (with_reducible exact LeO.refl _)
   | (with_reducible exact LeO.none _)
   | (with_reducible refine LeO.ite ?_ ?_)
   | (with_reducible refine LeO.bind ?_ (fun _ => ?_))
   | exact point_Turn.mono _ _ _ _ _ _ _
   | exact point_right.mono _ _
   | exact LeO.none _
   | refine LeO.ite ?_ ?_
   | refine LeO.bind ?_ (fun _ => ?_)
set_option maxHeartbeats 8000000 in
set_option maxRecDepth 100000 in
theorem point_On.calls (k : Nat) (a0_0 : Int) (a0_1 : Int) (a1_0 : Int) (a1_1 : Int) (a2_0 : Int) (a2_1 : Int) (r : Bool) (w : World) (h : point_On.f k a0_0 a0_1 a1_0 a1_1 a2_0 a2_1 = some r) :
  Calls Try.prog 41 #[.agg #[.int .i64 a0_0, .int .i64 a0_1], .agg #[.int .i64 a1_0, .int .i64 a1_1], .agg #[.int .i64 a2_0, .int .i64 a2_1]] w fun e w' => e = .returned (.bool r) ∧ Below w.heap.size w w' := by
 have hu41 := Try.underlying41
 have HB := bA (Below.refl w.heap.size w)
 have H : ((point_right.f k (([(⟨a0_0, a0_1⟩ : S41), (⟨a1_0, a1_1⟩ : S41), (⟨a2_0, a2_1⟩ : S41)] : List (S41)))).bind fun t229 => (if t229 = true then ((point_Turn.f k a1_0 a1_1 a2_0 a2_1 a0_0 a0_1).bind fun t230 => (if t230 = 0 then ((point_between.f a0_0 a1_0 a2_0).bind fun t231 => (if t231 = true then ((point_between.f a0_1 a1_1 a2_1).bind fun t232 => (some t232)) else (some false))) else (some false))) else (some false))) = some r := h
 clear h
 obtain ⟨y226, hy226⟩ : ∃ y_ : List (S41), y_ = (([(⟨a0_0, a0_1⟩ : S41), (⟨a1_0, a1_1⟩ : S41), (⟨a2_0, a2_1⟩ : S41)] : List (S41))) := ⟨_, rfl⟩
 replace H : ((point_right.f k y226).bind fun t229 => (if t229 = true then ((point_Turn.f k a1_0 a1_1 a2_0 a2_1 a0_0 a0_1).bind fun t230 => (if t230 = 0 then ((point_between.f a0_0 a1_0 a2_0).bind fun t231 => (if t231 = true then ((point_between.f a0_1 a1_1 a2_1).bind fun t232 => (some t232)) else (some false))) else (some false))) else (some false))) = some r := by first | (rw [hy226]; with_reducible exact H) | (have H2_ := (Option.bind_some _ _).symm.trans H; rw [hy226]; with_reducible exact H2_) | (have H2_ := (Option.bind_some _ _).symm.trans H; with_reducible exact H2_) | with_reducible exact H | (rw [hy226]; exact H) | exact H
 have Ny226 := bA hy226
 clear hy226
 replace H := Option.bind_eq_some_iff.mp H
 obtain ⟨t229, A40, H⟩ := H
 have A4 := bA A40
 clear A40
 by_cases c5 : t229 = true
 subst c5
 rw [if_pos rfl] at H
 replace H := Option.bind_eq_some_iff.mp H
 obtain ⟨t230, A60, H⟩ := H
 have A6 := bA A60
 clear A60
 by_cases c7 : t230 = 0
 rw [if_pos c7] at H
 have c7b0 : (t230 == 0) = true := beq_iff_eq.mpr c7
 have c7b1 : (t230 != 0) = false := bne_eq_false_iff_eq.mpr c7
 clear c7
 replace H := Option.bind_eq_some_iff.mp H
 obtain ⟨t231, A80, H⟩ := H
 have A8 := bA A80
 clear A80
 by_cases c9 : t231 = true
 subst c9
 rw [if_pos rfl] at H
 replace H := Option.bind_eq_some_iff.mp H
 obtain ⟨t232, A100, H⟩ := H
 have A10 := bA A100
 clear A100
 obtain rfl := Option.some.inj H
 rotate_left
 replace c9 := Bool.eq_false_iff.mpr c9
 subst c9
 rw [if_neg bn] at H
 obtain rfl := Option.some.inj H
 rotate_left
 rw [if_neg c7] at H
 have c7b0 : (t230 == 0) = false := beq_eq_false_iff_ne.mpr c7
 have c7b1 : (t230 != 0) = true := bne_iff_ne.mpr c7
 obtain rfl := Option.some.inj H
 rotate_left
 replace c5 := Bool.eq_false_iff.mpr c5
 subst c5
 rw [if_neg bn] at H
 obtain rfl := Option.some.inj H
 rotate_left
 all_goals go_enter Try.func41, Try.ntmps41
 all_goals go_wp2_with (first | ((with_reducible refine gate_dst (N := 3) rfl ?_); refine bE (N := 3) (cs := #[.int .i64 a0_0, .int .i64 a0_1]) (t := 41) ?_; intro gb223 hg wz0 hbox hb; have BK223 := bA (hbox); have GW223 := bA (bZ hg); have GE223 := bA (bZ hg); replace HB := bA (bS hb); clear hb hbox hg) | ((with_reducible refine gate_dst (N := 4) rfl ?_); refine bE (N := 4) (cs := #[.int .i64 a1_0, .int .i64 a1_1]) (t := 41) ?_; intro gb224 hg wz1 hbox hb; have BK224 := bA (hbox); have GW224 := bA (bZ hg); have GE224 := bA (bZ hg); have NB223_224 := bA (bL BK223 hg); have NB224_223 := bA (bG BK223 hg); replace BK223 := bA (bB BK223 hb); replace HB := bA (bS hb); clear hb hbox hg) | ((with_reducible refine gate_dst (N := 5) rfl ?_); refine bE (N := 5) (cs := #[.int .i64 a2_0, .int .i64 a2_1]) (t := 41) ?_; intro gb225 hg wz2 hbox hb; have BK225 := bA (hbox); have GW225 := bA (bZ hg); have GE225 := bA (bZ hg); have NB223_225 := bA (bL BK223 hg); have NB225_223 := bA (bG BK223 hg); have NB224_225 := bA (bL BK224 hg); have NB225_224 := bA (bG BK224 hg); replace BK223 := bA (bB BK223 hb); replace BK224 := bA (bB BK224 hb); replace HB := bA (bS hb); clear hb hbox hg; have hz1 := NB223_224.out; have hz2 := NB224_223.out; have hz3 := NB223_225.out; have hz4 := NB225_223.out; obtain ⟨hz5, hz6, hz7, hz8⟩ := bc2 BK223; have hz9 := NB224_225.out; have hz10 := NB225_224.out; obtain ⟨hz11, hz12, hz13, hz14⟩ := bc2 BK224; obtain ⟨hz15, hz16, hz17, hz18⟩ := bc2 BK225) | ((with_reducible refine gate_dst (N := 10) rfl ?_); refine Kd.R_lit k41 _ 41 ?hg (N := 10) ?hd (xs := ([(⟨a0_0, a0_1⟩ : S41), (⟨a1_0, a1_1⟩ : S41), (⟨a2_0, a2_1⟩ : S41)] : List (S41))) (inner := [.int .i64 a0_0, .int .i64 a0_1, .int .i64 a1_0, .int .i64 a1_1, .int .i64 a2_0, .int .i64 a2_1]) (ok := fun _ => True) (okp := fun _ => True) ?hr ?hp (fun _ hk => hk) trivial (Below.refl _ _) (Nat.le_refl _) (by simp) ?_; (case hd => rfl); (case hg => rfl); (case hr => first | (go_simp; done) | (go_simp; rfl)); (case hp => exact (Reps.c2 (show Kd.M k41 _ _ _ (⟨a0_0, a0_1⟩ : S41) [.int .i64 a0_0, .int .i64 a0_1] from (k41_mkM _ _ _ (⟨a0_0, a0_1⟩ : S41) )) (Reps.c2 (show Kd.M k41 _ _ _ (⟨a1_0, a1_1⟩ : S41) [.int .i64 a1_0, .int .i64 a1_1] from (k41_mkM _ _ _ (⟨a1_0, a1_1⟩ : S41) )) (Reps.c2 (show Kd.M k41 _ _ _ (⟨a2_0, a2_1⟩ : S41) [.int .i64 a2_0, .int .i64 a2_1] from (k41_mkM _ _ _ (⟨a2_0, a2_1⟩ : S41) )) (Reps.none _ _))))); intro v227 wz3 ho21 hb hg_ hnew_; clear hg_ hnew_; (first | rw [← Ny226.out] at ho21 | (simp only [Int.reduceToNat] at ho21; rw [← Ny226.out] at ho21)); have HO228 := bA (Kd.R_lower (bN (bN (bN ho21 BK223) BK224) BK225) bY); replace BK223 := bA (bB BK223 hb); replace BK224 := bA (bB BK224 hb); replace BK225 := bA (bB BK225 hb); replace HB := bA (bS hb); clear hb ho21; obtain ⟨Aoz4, coz5, eoz6⟩ := Kd.R_slice HO228.out; subst eoz6) | ((first | ((with_reducible refine gate_callee (f := 85) rfl ?_); refine bC (some 11) Try.func85 #[.slice Aoz4 y226.length coz5] ?_) | go_at_call 85); (with_reducible refine (point_right.calls k _ _ y226 true _ ?side1 ?side2 A4.out).mono ?_); (case side1 => repeat (first | exact (Kd.R_reads' HO228.out).2.2 | (with_reducible refine Kd.C_alloc ?_ _) | (with_reducible refine Kd.C_drewN ?_ _) | (with_reducible refine Kd.C_drew ?_))); (case side2 => exact (Kd.R_reads' HO228.out).2.1); rintro e wz7 ⟨rfl, hb⟩; (first | refine ⟨_, rfl, ?_⟩ | skip); replace HO228 := bA (Kd.R_below (bRr HO228) hb); replace BK223 := bA (bB BK223 hb); replace BK224 := bA (bB BK224 hb); replace BK225 := bA (bB BK225 hb); replace HB := bA (bS hb); (try clear hb); obtain ⟨hz19, hz20, hz13, hz14⟩ := bc2 BK224; obtain ⟨hz21, hz22, hz17, hz18⟩ := bc2 BK225; obtain ⟨hz23, hz24, hz7, hz8⟩ := bc2 BK223) | (go_at_call 74; (with_reducible refine (point_Turn.calls k a1_0 a1_1 a2_0 a2_1 a0_0 a0_1 t230 _ A6.out).mono ?_); rintro e wz8 ⟨rfl, hb⟩; replace HO228 := bA (Kd.R_below (bRr HO228) hb); replace BK223 := bA (bB BK223 hb); replace BK224 := bA (bB BK224 hb); replace BK225 := bA (bB BK225 hb); replace HB := bA (bS hb); (try clear hb); obtain ⟨hz25, hz26, hz7, hz8⟩ := bc2 BK223; obtain ⟨hz27, hz28, hz13, hz14⟩ := bc2 BK224; obtain ⟨hz29, hz30, hz17, hz18⟩ := bc2 BK225) | (go_at_call 86; (with_reducible refine (point_between.calls a0_0 a1_0 a2_0 true _ A8.out).mono ?_); rintro e wz9 ⟨rfl, hb⟩; replace HO228 := bA (Kd.R_below (bRr HO228) hb); replace BK223 := bA (bB BK223 hb); replace BK224 := bA (bB BK224 hb); replace BK225 := bA (bB BK225 hb); replace HB := bA (bS hb); (try clear hb); obtain ⟨hz31, hz32, hz7, hz8⟩ := bc2 BK223; obtain ⟨hz33, hz34, hz13, hz14⟩ := bc2 BK224; obtain ⟨hz35, hz36, hz17, hz18⟩ := bc2 BK225) | (go_at_call 86; (with_reducible refine (point_between.calls a0_1 a1_1 a2_1 t232 _ A10.out).mono ?_); rintro e wz10 ⟨rfl, hb⟩; replace HO228 := bA (Kd.R_below (bRr HO228) hb); replace BK223 := bA (bB BK223 hb); replace BK224 := bA (bB BK224 hb); replace BK225 := bA (bB BK225 hb); replace HB := bA (bS hb); (try clear hb)) | ((with_reducible refine gate_dst (N := 10) rfl ?_); refine Kd.R_lit k41 _ 41 ?hg (N := 10) ?hd (xs := ([(⟨a0_0, a0_1⟩ : S41), (⟨a1_0, a1_1⟩ : S41), (⟨a2_0, a2_1⟩ : S41)] : List (S41))) (inner := [.int .i64 a0_0, .int .i64 a0_1, .int .i64 a1_0, .int .i64 a1_1, .int .i64 a2_0, .int .i64 a2_1]) (ok := fun _ => True) (okp := fun _ => True) ?hr ?hp (fun _ hk => hk) trivial (Below.refl _ _) (Nat.le_refl _) (by simp) ?_; (case hd => rfl); (case hg => rfl); (case hr => first | (go_simp; done) | (go_simp; rfl)); (case hp => exact (Reps.c2 (show Kd.M k41 _ _ _ (⟨a0_0, a0_1⟩ : S41) [.int .i64 a0_0, .int .i64 a0_1] from (k41_mkM _ _ _ (⟨a0_0, a0_1⟩ : S41) )) (Reps.c2 (show Kd.M k41 _ _ _ (⟨a1_0, a1_1⟩ : S41) [.int .i64 a1_0, .int .i64 a1_1] from (k41_mkM _ _ _ (⟨a1_0, a1_1⟩ : S41) )) (Reps.c2 (show Kd.M k41 _ _ _ (⟨a2_0, a2_1⟩ : S41) [.int .i64 a2_0, .int .i64 a2_1] from (k41_mkM _ _ _ (⟨a2_0, a2_1⟩ : S41) )) (Reps.none _ _))))); intro v227 wz3 ho46 hb hg_ hnew_; clear hg_ hnew_; (first | rw [← Ny226.out] at ho46 | (simp only [Int.reduceToNat] at ho46; rw [← Ny226.out] at ho46)); have HO228 := bA (Kd.R_lower (bN (bN (bN ho46 BK223) BK224) BK225) bY); replace BK223 := bA (bB BK223 hb); replace BK224 := bA (bB BK224 hb); replace BK225 := bA (bB BK225 hb); replace HB := bA (bS hb); clear hb ho46; obtain ⟨Aoz4, coz5, eoz6⟩ := Kd.R_slice HO228.out; subst eoz6) | (go_at_call 86; (with_reducible refine (point_between.calls a0_0 a1_0 a2_0 false _ A8.out).mono ?_); rintro e wz9 ⟨rfl, hb⟩; replace HO228 := bA (Kd.R_below (bRr HO228) hb); replace BK223 := bA (bB BK223 hb); replace BK224 := bA (bB BK224 hb); replace BK225 := bA (bB BK225 hb); replace HB := bA (bS hb); (try clear hb)) | ((with_reducible refine gate_dst (N := 10) rfl ?_); refine Kd.R_lit k41 _ 41 ?hg (N := 10) ?hd (xs := ([(⟨a0_0, a0_1⟩ : S41), (⟨a1_0, a1_1⟩ : S41), (⟨a2_0, a2_1⟩ : S41)] : List (S41))) (inner := [.int .i64 a0_0, .int .i64 a0_1, .int .i64 a1_0, .int .i64 a1_1, .int .i64 a2_0, .int .i64 a2_1]) (ok := fun _ => True) (okp := fun _ => True) ?hr ?hp (fun _ hk => hk) trivial (Below.refl _ _) (Nat.le_refl _) (by simp) ?_; (case hd => rfl); (case hg => rfl); (case hr => first | (go_simp; done) | (go_simp; rfl)); (case hp => exact (Reps.c2 (show Kd.M k41 _ _ _ (⟨a0_0, a0_1⟩ : S41) [.int .i64 a0_0, .int .i64 a0_1] from (k41_mkM _ _ _ (⟨a0_0, a0_1⟩ : S41) )) (Reps.c2 (show Kd.M k41 _ _ _ (⟨a1_0, a1_1⟩ : S41) [.int .i64 a1_0, .int .i64 a1_1] from (k41_mkM _ _ _ (⟨a1_0, a1_1⟩ : S41) )) (Reps.c2 (show Kd.M k41 _ _ _ (⟨a2_0, a2_1⟩ : S41) [.int .i64 a2_0, .int .i64 a2_1] from (k41_mkM _ _ _ (⟨a2_0, a2_1⟩ : S41) )) (Reps.none _ _))))); intro v227 wz3 ho67 hb hg_ hnew_; clear hg_ hnew_; (first | rw [← Ny226.out] at ho67 | (simp only [Int.reduceToNat] at ho67; rw [← Ny226.out] at ho67)); have HO228 := bA (Kd.R_lower (bN (bN (bN ho67 BK223) BK224) BK225) bY); replace BK223 := bA (bB BK223 hb); replace BK224 := bA (bB BK224 hb); replace BK225 := bA (bB BK225 hb); replace HB := bA (bS hb); clear hb ho67; obtain ⟨Aoz4, coz5, eoz6⟩ := Kd.R_slice HO228.out; subst eoz6) | ((with_reducible refine gate_dst (N := 10) rfl ?_); refine Kd.R_lit k41 _ 41 ?hg (N := 10) ?hd (xs := ([(⟨a0_0, a0_1⟩ : S41), (⟨a1_0, a1_1⟩ : S41), (⟨a2_0, a2_1⟩ : S41)] : List (S41))) (inner := [.int .i64 a0_0, .int .i64 a0_1, .int .i64 a1_0, .int .i64 a1_1, .int .i64 a2_0, .int .i64 a2_1]) (ok := fun _ => True) (okp := fun _ => True) ?hr ?hp (fun _ hk => hk) trivial (Below.refl _ _) (Nat.le_refl _) (by simp) ?_; (case hd => rfl); (case hg => rfl); (case hr => first | (go_simp; done) | (go_simp; rfl)); (case hp => exact (Reps.c2 (show Kd.M k41 _ _ _ (⟨a0_0, a0_1⟩ : S41) [.int .i64 a0_0, .int .i64 a0_1] from (k41_mkM _ _ _ (⟨a0_0, a0_1⟩ : S41) )) (Reps.c2 (show Kd.M k41 _ _ _ (⟨a1_0, a1_1⟩ : S41) [.int .i64 a1_0, .int .i64 a1_1] from (k41_mkM _ _ _ (⟨a1_0, a1_1⟩ : S41) )) (Reps.c2 (show Kd.M k41 _ _ _ (⟨a2_0, a2_1⟩ : S41) [.int .i64 a2_0, .int .i64 a2_1] from (k41_mkM _ _ _ (⟨a2_0, a2_1⟩ : S41) )) (Reps.none _ _))))); intro v227 wz3 ho84 hb hg_ hnew_; clear hg_ hnew_; (first | rw [← Ny226.out] at ho84 | (simp only [Int.reduceToNat] at ho84; rw [← Ny226.out] at ho84)); have HO228 := bA (Kd.R_lower (bN (bN (bN ho84 BK223) BK224) BK225) bY); replace BK223 := bA (bB BK223 hb); replace BK224 := bA (bB BK224 hb); replace BK225 := bA (bB BK225 hb); replace HB := bA (bS hb); clear hb ho84; obtain ⟨Aoz4, coz5, eoz6⟩ := Kd.R_slice HO228.out; subst eoz6) | ((first | ((with_reducible refine gate_callee (f := 85) rfl ?_); refine bC (some 11) Try.func85 #[.slice Aoz4 y226.length coz5] ?_) | go_at_call 85); (with_reducible refine (point_right.calls k _ _ y226 false _ ?side1 ?side2 A4.out).mono ?_); (case side1 => repeat (first | exact (Kd.R_reads' HO228.out).2.2 | (with_reducible refine Kd.C_alloc ?_ _) | (with_reducible refine Kd.C_drewN ?_ _) | (with_reducible refine Kd.C_drew ?_))); (case side2 => exact (Kd.R_reads' HO228.out).2.1); rintro e wz7 ⟨rfl, hb⟩; (first | refine ⟨_, rfl, ?_⟩ | skip); replace HO228 := bA (Kd.R_below (bRr HO228) hb); replace BK223 := bA (bB BK223 hb); replace BK224 := bA (bB BK224 hb); replace BK225 := bA (bB BK225 hb); replace HB := bA (bS hb); (try clear hb)))
 all_goals (go_ret; exact bF)
end Go.Proofs.Ytjmibjmlihmglaa.G
