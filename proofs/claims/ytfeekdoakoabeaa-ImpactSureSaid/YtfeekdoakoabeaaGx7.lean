-- Written by a program of this session out of the translation; Lean checks it.
import Derived.Test.YtfeekdoakoabeaaGx0
import Derived.Test.YtfeekdoakoabeaaGx3
import Derived.Test.YtfeekdoakoabeaaGx5
import Derived.Test.YtfeekdoakoabeaaGx6
namespace Go.Proofs.Ytfeekdoakoabeaa.G
open Go.RowKit Go.Proofs.YtfeekdoakoabeaaW.PrintWords Go.Proofs.YtfeekdoakoabeaaW.PrintLast Go.Proofs.YtfeekdoakoabeaaW.PrintMore
attribute [local go_sem] max2_int min2_int max_two min_two max_three min_three max_four min_four   -- for this text's walks alone
set_option linter.unusedVariables false
set_option linter.unusedSimpArgs false

attribute [local go_sem high] eqA84
/-! ### impact_Box: function 7 -/
def impact_Box.j0 : Nat → Int → Int → Int → Bool → Int → Int → Int → Int → Int → Int → Int → Int → Int → Int → Int → Int → Option (Int × Int × Int × Int × Bool)
 | 0, _, _, _, _, _, _, _, _, _, _, _, _, _, _, _, _ => none
 | k + 1, x2, x8, x9, x26, x162000, x162001, x162002, x162003, x162004, x162005, x162006, x162007, x163000, x163001, x163002, x163003 => if x26 = true then (some (x163000, x163001, x163002, x163003, false)) else ((impact_side.f x162002 x162005 x2 x8 x9).bind fun bt167 => ((impact_side.f x162003 x162006 x2 x8 x9).bind fun bt169 => ((box_Right.f bt167.1 bt169.1 bt167.2 bt169.2).bind fun t171 => (some (bt167.1, bt169.1, bt167.2, bt169.2, t171)))))
def impact_Box.f (k : Nat) (a0_0 : Int) (a0_1 : Int) (a0_2 : Int) (a0_3 : Int) (a0_4 : Int) (a0_5 : Int) (a0_6 : Int) (a0_7 : Int) (a1 : Int) (a2 : Int) : Option (Int × Int × Int × Int × Bool) := (fall_Span.f k a0_4 a0_7 a1 a2).bind fun bt163 => (if bt163.2.2 = true then ((impact_may.f k a0_0 a0_1 a0_2 a0_3 a0_4 a0_5 a0_6 a0_7).bind fun t166 => (impact_Box.j0 k a2 bt163.1 bt163.2.1 (!t166) a0_0 a0_1 a0_2 a0_3 a0_4 a0_5 a0_6 a0_7 0 0 0 0)) else (impact_Box.j0 k a2 bt163.1 bt163.2.1 true a0_0 a0_1 a0_2 a0_3 a0_4 a0_5 a0_6 a0_7 0 0 0 0))
theorem impact_Box.mono_l : ∀ k, (∀ y0 y1 y2 y3 y4 y5 y6 y7 y8 y9 y10 y11 y12 y13 y14 y15, LeO (impact_Box.j0 k y0 y1 y2 y3 y4 y5 y6 y7 y8 y9 y10 y11 y12 y13 y14 y15) (impact_Box.j0 (k + 1) y0 y1 y2 y3 y4 y5 y6 y7 y8 y9 y10 y11 y12 y13 y14 y15))
 | 0 => fun _ _ _ _ _ _ _ _ _ _ _ _ _ _ _ _ r h => by simp [impact_Box.j0] at h
 | k + 1 => by
  have ih0 := impact_Box.mono_l k
  ·intro y0 y1 y2 y3 y4 y5 y6 y7 y8 y9 y10 y11 y12 y13 y14 y15
   unfold impact_Box.j0
   have m0_ := @fall_Span.mono
   have m1_ := @impact_may.mono
   exact bMo
theorem impact_Box.mono : ∀ a0 a1 a2 a3 a4 a5 a6 a7 a8 a9 k, LeO (impact_Box.f k a0 a1 a2 a3 a4 a5 a6 a7 a8 a9) (impact_Box.f (k + 1) a0 a1 a2 a3 a4 a5 a6 a7 a8 a9) := by
 intro a0 a1 a2 a3 a4 a5 a6 a7 a8 a9 k
 have ih0 := impact_Box.mono_l k
 unfold impact_Box.f
 have m0_ := @fall_Span.mono
 have m1_ := @impact_may.mono
 exact bMo
set_option maxHeartbeats 8000000 in
set_option maxRecDepth 100000 in
theorem impact_Box.calls (k : Nat) (a0_0 : Int) (a0_1 : Int) (a0_2 : Int) (a0_3 : Int) (a0_4 : Int) (a0_5 : Int) (a0_6 : Int) (a0_7 : Int) (a1 : Int) (a2 : Int) (r1 : Int) (r2 : Int) (r3 : Int) (r4 : Int) (r5 : Bool) (w : World) (h : impact_Box.f k a0_0 a0_1 a0_2 a0_3 a0_4 a0_5 a0_6 a0_7 a1 a2 = some (r1, r2, r3, r4, r5)) :
  Calls Try.prog 7 #[.agg #[.int .i64 a0_0, .int .i64 a0_1, .int .i64 a0_2, .int .i64 a0_3, .int .i64 a0_4, .int .i64 a0_5, .int .i64 a0_6, .int .i64 a0_7], .int .i64 a1, .int .i64 a2] w fun e w' => e = .returned (.tuple #[.agg #[.int .i64 r1, .int .i64 r2, .int .i64 r3, .int .i64 r4], .bool r5]) ∧ Below w.heap.size w w' := by
 have hu23 := Try.underlying23
 have hu30 := Try.underlying30
 have HB := bA (Below.refl w.heap.size w)
 have H : ((fall_Span.f k a0_4 a0_7 a1 a2).bind fun bt163 => (if bt163.2.2 = true then ((impact_may.f k a0_0 a0_1 a0_2 a0_3 a0_4 a0_5 a0_6 a0_7).bind fun t166 => (impact_Box.j0 k a2 bt163.1 bt163.2.1 (!t166) a0_0 a0_1 a0_2 a0_3 a0_4 a0_5 a0_6 a0_7 0 0 0 0)) else (impact_Box.j0 k a2 bt163.1 bt163.2.1 true a0_0 a0_1 a0_2 a0_3 a0_4 a0_5 a0_6 a0_7 0 0 0 0))) = some (r1, r2, r3, r4, r5) := h
 clear h
 replace H := Option.bind_eq_some_iff.mp H
 obtain ⟨⟨t163, t164, t165⟩, A40, H⟩ := H
 replace H : (if t165 = true then ((impact_may.f k a0_0 a0_1 a0_2 a0_3 a0_4 a0_5 a0_6 a0_7).bind fun t166 => (impact_Box.j0 k a2 t163 t164 (!t166) a0_0 a0_1 a0_2 a0_3 a0_4 a0_5 a0_6 a0_7 0 0 0 0)) else (impact_Box.j0 k a2 t163 t164 true a0_0 a0_1 a0_2 a0_3 a0_4 a0_5 a0_6 a0_7 0 0 0 0)) = some (r1, r2, r3, r4, r5) := H
 have A4 := bA A40
 clear A40
 have HC5 := bA H
 clear H
 go_enter Try.func7, Try.ntmps7
 go_upto_region 2 with (first | ((with_reducible refine gate_dst (N := 3) rfl ?_); refine bE (N := 3) (cs := #[.int .i64 a0_0, .int .i64 a0_1, .int .i64 a0_2, .int .i64 a0_3, .int .i64 a0_4, .int .i64 a0_5, .int .i64 a0_6, .int .i64 a0_7]) (t := 23) ?_; intro gb161 hg w6 hbox hb; have n0_ := bA (bS hb); have n1_ := bA (hbox); have n2_ := bA (bZ hg); have n3_ := bA (bZ hg); clear HB; have HB := n0_; have BK161 := n1_; have GW161 := n2_; have GE161 := n3_; clear n0_ n1_ n2_ n3_; clear hb hbox hg) | ((with_reducible refine gate_dst (N := 6) rfl ?_); refine bE (N := 6) (cs := #[.int .i64 0, .int .i64 0, .int .i64 0, .int .i64 0]) (t := 30) ?_; intro gb162 hg w7 hbox hb; have n0_ := bA (bB BK161 hb); have n1_ := bA (bS hb); have n2_ := bA (hbox); have n3_ := bA (bZ hg); have n4_ := bA (bZ hg); have n5_ := bA (bL BK161 hg); have n6_ := bA (bG BK161 hg); clear BK161; clear HB; have BK161 := n0_; have HB := n1_; have BK162 := n2_; have GW162 := n3_; have GE162 := n4_; have NB161_162 := n5_; have NB162_161 := n6_; clear n0_ n1_ n2_ n3_ n4_ n5_ n6_; clear hb hbox hg; have hnb8 := NB161_162.out; have hnc8 := NB162_161.out; obtain ⟨hcz9_0, hcz9_1, hcz9_2, hcz9_3, hcz9_4, hcz9_5, hcz9_6, hcz9_7, hfz9_0, hfz9_1, hfz9_2, hfz9_3, hfz9_4, hfz9_5, hfz9_6, hfz9_7⟩ := bc8 BK161) | ((first | ((with_reducible refine gate_callee (f := 18) rfl ?_); refine bC (some 17) Try.func18 #[.int .i64 a0_4, .int .i64 a0_7, .int .i64 a1, .int .i64 a2] ?_) | go_at_call 18); (with_reducible refine (fall_Span.calls k a0_4 a0_7 a1 a2 t163 t164 t165 _ A4.out).mono ?_); rintro e w10 ⟨rfl, hb⟩; (first | refine ⟨_, rfl, ?_⟩ | skip); have n0_ := bA (bB BK161 hb); have n1_ := bA (bB BK162 hb); have n2_ := bA (bS hb); clear BK161; clear BK162; clear HB; have BK161 := n0_; have BK162 := n1_; have HB := n2_; clear n0_ n1_ n2_; (try clear hb)))
 (try simp only [Act.put, List.setIfInBounds_toArray, List.set_cons_zero, List.set_cons_succ])
 go_cut [26] (fun v26 wc => ∃ (kq : Nat) (x26_4 : Bool) (x162000_4 : Int) (x162001_4 : Int) (x162002_4 : Int) (x162003_4 : Int) (x162004_4 : Int) (x162005_4 : Int) (x162006_4 : Int) (x162007_4 : Int), v26 = .bool x26_4 ∧ Aside0 (impact_Box.j0 kq a2 t163 t164 x26_4 x162000_4 x162001_4 x162002_4 x162003_4 x162004_4 x162005_4 x162006_4 x162007_4 0 0 0 0 = some (r1, r2, r3, r4, r5)) ∧ Aside0 (kq ≤ k) ∧ Aside0 (wc.heap[gb161]? = some (.cells #[.int .i64 x162000_4, .int .i64 x162001_4, .int .i64 x162002_4, .int .i64 x162003_4, .int .i64 x162004_4, .int .i64 x162005_4, .int .i64 x162006_4, .int .i64 x162007_4] 23 (0, 0))) ∧ Aside0 (wc.heap[gb162]? = some (.cells #[.int .i64 0, .int .i64 0, .int .i64 0, .int .i64 0] 30 (0, 0))) ∧ Aside0 (Below w.heap.size w wc))
 case first =>
  have H := HC5.out
  clear HC5
  by_cases c11 : t165 = true
  subst c11
  rw [if_pos rfl] at H
  replace H := Option.bind_eq_some_iff.mp H
  obtain ⟨t166, A120, H⟩ := H
  have A12 := bA A120
  clear A120
  have H' := bA H
  clear H
  rotate_left
  replace c11 := Bool.eq_false_iff.mpr c11
  subst c11
  rw [if_neg bn] at H
  have H' := bA H
  clear H
  rotate_left
  all_goals go_wp2_with (first | (go_at_call 19; (with_reducible refine (impact_may.calls k gb161 a0_0 a0_1 a0_2 a0_3 a0_4 a0_5 a0_6 a0_7 t166 _ ?side1 A12.out).mono ?_); (case side1 => exact (bP BK161)); rintro e wz0 ⟨rfl, hb⟩; replace BK161 := bA (bB BK161 hb); replace BK162 := bA (bB BK162 hb); replace HB := bA (bS hb); (try clear hb)))
  ·go_meet
   case rel => exact ⟨_, (!t166), (a0_0), (a0_1), (a0_2), (a0_3), (a0_4), (a0_5), (a0_6), (a0_7), bs, H', ⟨by first | omega | exact Nat.le_refl _⟩, ⟨by (with_reducible repeat (first | refine blk_drewN ?_ _ | refine blk_drew ?_ | refine blk_alloc ?_ _)); exact BK161.out⟩, ⟨by (with_reducible repeat (first | refine blk_drewN ?_ _ | refine blk_drew ?_ | refine blk_alloc ?_ _)); exact BK162.out⟩, ⟨bX⟩⟩
  go_meet
  case rel => exact ⟨_, (true), (a0_0), (a0_1), (a0_2), (a0_3), (a0_4), (a0_5), (a0_6), (a0_7), bs, H', ⟨by first | omega | exact Nat.le_refl _⟩, ⟨by (with_reducible repeat (first | refine blk_drewN ?_ _ | refine blk_drew ?_ | refine blk_alloc ?_ _)); exact BK161.out⟩, ⟨by (with_reducible repeat (first | refine blk_drewN ?_ _ | refine blk_drew ?_ | refine blk_alloc ?_ _)); exact BK162.out⟩, ⟨bX⟩⟩
 clear HC5
 try clear c1
 try clear p2
 try clear c7
 try clear c8
 try clear c11
 try clear hcz9_0
 try clear hcz9_1
 try clear hcz9_2
 try clear hcz9_3
 try clear hcz9_4
 try clear hcz9_5
 try clear hcz9_6
 try clear hcz9_7
 try clear hfz9_0
 try clear hfz9_1
 try clear hfz9_2
 try clear hfz9_3
 try clear hfz9_4
 try clear hfz9_5
 try clear hfz9_6
 try clear hfz9_7
 obtain ⟨kq, x26_4, x162000_4, x162001_4, x162002_4, x162003_4, x162004_4, x162005_4, x162006_4, x162007_4, rfl, HA, HJ4, BK161, BK162, HB⟩ := hcut
 cases kq with
 | zero => exact absurd HA.out (by simp [impact_Box.j0])
 | succ kj4 =>
  have H := HA.out
  clear HA
  simp only [impact_Box.j0] at H
  by_cases c14 : x26_4 = true
  ·subst c14
   rw [if_pos rfl] at H
   simp only [Option.some.injEq, Prod.mk.injEq] at H
   obtain ⟨rfl, rfl, rfl, rfl, rfl⟩ := H
   have hnb15 := NB162_161.out
   have hnc15 := NB161_162.out
   obtain ⟨hcz16_0, hcz16_1, hcz16_2, hcz16_3, hfz16_0, hfz16_1, hfz16_2, hfz16_3⟩ := bc4 BK162
   go_wp2
   refine bodyPost_ret (results_ct rfl _ _ gb162 30 #[.int .i64 0, .int .i64 0, .int .i64 0, .int .i64 0] (0, 0) _ rfl (by (with_reducible repeat (first | refine blk_drewN ?_ _ | refine blk_drew ?_ | refine blk_alloc ?_ _)); refine blk_put (cs := #[.int .i64 0, .int .i64 0, .int .i64 0, .int .i64 0]) ?_ 3 _ rfl; (with_reducible repeat (first | refine blk_drewN ?_ _ | refine blk_drew ?_ | refine blk_alloc ?_ _)); refine blk_put (cs := #[.int .i64 0, .int .i64 0, .int .i64 0, .int .i64 0]) ?_ 2 _ rfl; (with_reducible repeat (first | refine blk_drewN ?_ _ | refine blk_drew ?_ | refine blk_alloc ?_ _)); refine blk_put (cs := #[.int .i64 0, .int .i64 0, .int .i64 0, .int .i64 0]) ?_ 1 _ rfl; (with_reducible repeat (first | refine blk_drewN ?_ _ | refine blk_drew ?_ | refine blk_alloc ?_ _)); refine blk_put (cs := #[.int .i64 0, .int .i64 0, .int .i64 0, .int .i64 0]) ?_ 0 _ rfl; (with_reducible repeat (first | refine blk_drewN ?_ _ | refine blk_drew ?_ | refine blk_alloc ?_ _)); exact BK162.out) Try.underlying30 rfl (by kernel_rfl)) rfl ?_
   exact bF
  replace c14 := Bool.eq_false_iff.mpr c14
  subst c14
  rw [if_neg bn] at H
  replace H := Option.bind_eq_some_iff.mp H
  obtain ⟨⟨t167, t168⟩, A170, H⟩ := H
  replace H : ((impact_side.f x162003_4 x162006_4 a2 t163 t164).bind fun bt169 => ((box_Right.f t167 bt169.1 t168 bt169.2).bind fun t171 => (some (t167, bt169.1, t168, bt169.2, t171)))) = some (r1, r2, r3, r4, r5) := H
  have A17 := bA A170
  clear A170
  replace H := Option.bind_eq_some_iff.mp H
  obtain ⟨⟨t169, t170⟩, A180, H⟩ := H
  replace H : ((box_Right.f t167 t169 t168 t170).bind fun t171 => (some (t167, t169, t168, t170, t171))) = some (r1, r2, r3, r4, r5) := H
  have A18 := bA A180
  clear A180
  replace H := Option.bind_eq_some_iff.mp H
  obtain ⟨t171, A190, H⟩ := H
  have A19 := bA A190
  clear A190
  simp only [Option.some.injEq, Prod.mk.injEq] at H
  obtain ⟨rfl, rfl, rfl, rfl, rfl⟩ := H
  have hnb20 := NB161_162.out
  have hnc20 := NB162_161.out
  obtain ⟨hcz21_0, hcz21_1, hcz21_2, hcz21_3, hcz21_4, hcz21_5, hcz21_6, hcz21_7, hfz21_0, hfz21_1, hfz21_2, hfz21_3, hfz21_4, hfz21_5, hfz21_6, hfz21_7⟩ := bc8 BK161
  try go_wp2_with (first | ((first | ((with_reducible refine gate_callee (f := 20) rfl ?_); refine bC (some 36) Try.func20 #[.int .i64 x162002_4, .int .i64 x162005_4, .int .i64 a2, .int .i64 t163, .int .i64 t164] ?_) | go_at_call 20); (with_reducible refine (impact_side.calls x162002_4 x162005_4 a2 t163 t164 t167 t168 _ A17.out).mono ?_); rintro e w22 ⟨rfl, hb⟩; (first | refine ⟨_, rfl, ?_⟩ | skip); replace BK161 := bA (bB BK161 hb); replace BK162 := bA (bB BK162 hb); replace HB := bA (bS hb); (try clear hb); obtain ⟨hcz23_0, hcz23_1, hcz23_2, hcz23_3, hfz23_0, hfz23_1, hfz23_2, hfz23_3⟩ := bc4 BK162; obtain ⟨hcz24_0, hcz24_1, hcz24_2, hcz24_3, hcz24_4, hcz24_5, hcz24_6, hcz24_7, hfz24_0, hfz24_1, hfz24_2, hfz24_3, hfz24_4, hfz24_5, hfz24_6, hfz24_7⟩ := bc8 BK161) | ((first | ((with_reducible refine gate_callee (f := 20) rfl ?_); refine bC (some 51) Try.func20 #[.int .i64 x162003_4, .int .i64 x162006_4, .int .i64 a2, .int .i64 t163, .int .i64 t164] ?_) | go_at_call 20); (with_reducible refine (impact_side.calls x162003_4 x162006_4 a2 t163 t164 t169 t170 _ A18.out).mono ?_); rintro e w25 ⟨rfl, hb⟩; (first | refine ⟨_, rfl, ?_⟩ | skip); replace BK161 := bA (blk_below (g := gb161) (o := .cells #[.int .i64 x162000_4, .int .i64 x162001_4, .int .i64 x162002_4, .int .i64 x162003_4, .int .i64 x162004_4, .int .i64 x162005_4, .int .i64 x162006_4, .int .i64 x162007_4] 23 (0, 0)) (by (repeat ((with_reducible repeat (first | refine blk_drewN ?_ _ | refine blk_drew ?_ | refine blk_alloc ?_ _)); refine blk_far ?_ NB161_162.out _)); (with_reducible repeat (first | refine blk_drewN ?_ _ | refine blk_drew ?_ | refine blk_alloc ?_ _)); exact BK161.out) hb); replace BK162 := bA (blk_below (g := gb162) (o := .cells #[.int .i64 t167, .int .i64 0, .int .i64 t168, .int .i64 0] 30 (0, 0)) (by (with_reducible repeat (first | refine blk_drewN ?_ _ | refine blk_drew ?_ | refine blk_alloc ?_ _)); refine blk_put (cs := #[.int .i64 t167, .int .i64 0, .int .i64 0, .int .i64 0]) ?_ 2 _ rfl; (with_reducible repeat (first | refine blk_drewN ?_ _ | refine blk_drew ?_ | refine blk_alloc ?_ _)); refine blk_put (cs := #[.int .i64 0, .int .i64 0, .int .i64 0, .int .i64 0]) ?_ 0 _ rfl; (with_reducible repeat (first | refine blk_drewN ?_ _ | refine blk_drew ?_ | refine blk_alloc ?_ _)); exact BK162.out) hb); replace HB := bA (bS hb); (try clear hb); obtain ⟨hcz26_0, hcz26_1, hcz26_2, hcz26_3, hfz26_0, hfz26_1, hfz26_2, hfz26_3⟩ := bc4 BK162))
  have n0_ : Aside0 (((w25.setCell ⟨gb162, 1, none⟩ (.int .i64 t169)).setCell ⟨gb162, 3, none⟩ (.int .i64 t170)).heap[gb161]? = some (.cells #[.int .i64 x162000_4, .int .i64 x162001_4, .int .i64 x162002_4, .int .i64 x162003_4, .int .i64 x162004_4, .int .i64 x162005_4, .int .i64 x162006_4, .int .i64 x162007_4] 23 (0, 0))) := ⟨by (repeat ((with_reducible repeat (first | refine blk_drewN ?_ _ | refine blk_drew ?_ | refine blk_alloc ?_ _)); refine blk_far ?_ NB161_162.out _)); (with_reducible repeat (first | refine blk_drewN ?_ _ | refine blk_drew ?_ | refine blk_alloc ?_ _)); exact BK161.out⟩
  have n1_ : Aside0 (((w25.setCell ⟨gb162, 1, none⟩ (.int .i64 t169)).setCell ⟨gb162, 3, none⟩ (.int .i64 t170)).heap[gb162]? = some (.cells #[.int .i64 t167, .int .i64 t169, .int .i64 t168, .int .i64 t170] 30 (0, 0))) := ⟨by (with_reducible repeat (first | refine blk_drewN ?_ _ | refine blk_drew ?_ | refine blk_alloc ?_ _)); refine blk_put (cs := #[.int .i64 t167, .int .i64 t169, .int .i64 t168, .int .i64 0]) ?_ 3 _ rfl; (with_reducible repeat (first | refine blk_drewN ?_ _ | refine blk_drew ?_ | refine blk_alloc ?_ _)); refine blk_put (cs := #[.int .i64 t167, .int .i64 0, .int .i64 t168, .int .i64 0]) ?_ 1 _ rfl; (with_reducible repeat (first | refine blk_drewN ?_ _ | refine blk_drew ?_ | refine blk_alloc ?_ _)); exact BK162.out⟩
  have n2_ : Aside0 (Below w.heap.size w ((w25.setCell ⟨gb162, 1, none⟩ (.int .i64 t169)).setCell ⟨gb162, 3, none⟩ (.int .i64 t170))) := ⟨bX⟩
  (try clear BK161)
  (try clear BK162)
  (try clear HB)
  generalize ((w25.setCell ⟨gb162, 1, none⟩ (.int .i64 t169)).setCell ⟨gb162, 3, none⟩ (.int .i64 t170)) = w27 at n0_ n1_ n2_ ⊢
  have BK161 := n0_
  have BK162 := n1_
  have HB := n2_
  clear n0_ n1_ n2_
  replace BK161 := bA (blk_drew BK161.out)
  replace BK162 := bA (blk_drew BK162.out)
  replace HB := bA (below_drew1 HB.out)
  refine start_ (n := 5) (S := fun w' => w'.cell? ⟨gb162, 0, none⟩ = some (.int .i64 t167) ∧ w'.cell? ⟨gb162, 1, none⟩ = some (.int .i64 t169) ∧ w'.cell? ⟨gb162, 2, none⟩ = some (.int .i64 t168) ∧ w'.cell? ⟨gb162, 3, none⟩ = some (.int .i64 t170)) (ds := [3]) #[false, false, false, false, false] (by kernel_rfl) rfl rfl ⟨bq BK162 0, bq BK162 1, bq BK162 2, bq BK162 3⟩ (fun hHeld => ?_)
  generalize w27.drew = w28 at BK161 BK162 HB hHeld ⊢
  refine take_ (i := 0) (N := some 58) (v := ?_) (a' := ?_) #[true, false, false, false, false] rfl rfl (by kernel_rfl) (fun _ _ _ h => h) (Or.inl ⟨by rfl, ?_⟩) hHeld ?_ ?_
  rotate_left
  ·rintro w' ⟨s0, s1, s2, s3⟩
   go_simp
   with_reducible rfl
  rotate_left
  ·simp only [Act.put, List.setIfInBounds_toArray, List.set_cons_zero, List.set_cons_succ, i64_w, i32_w]
   rfl
  refine take_ (i := 1) (N := some 59) (v := ?_) (a' := ?_) #[true, true, false, false, false] rfl rfl (by kernel_rfl) (fun _ _ _ h => h) (Or.inl ⟨by rfl, ?_⟩) hHeld ?_ ?_
  rotate_left
  ·rintro w' ⟨s0, s1, s2, s3⟩
   go_simp
   with_reducible rfl
  rotate_left
  ·simp only [Act.put, List.setIfInBounds_toArray, List.set_cons_zero, List.set_cons_succ, i64_w, i32_w]
   rfl
  refine one_ (i := 2) (N := some 60) #[true, true, true, false, false] rfl rfl (by kernel_rfl) (by decide) (fun K hK => ?_)
  refine goes_ Try.func21 (by kernel_rfl) rfl #[.agg #[.int .i64 t167, .int .i64 t169, .int .i64 t168, .int .i64 t170]] (by rfl) rfl rfl (by (try simp only [List.map_toArray, List.map_cons, List.map_nil]); first | done | rfl | (simp only [List.length_drop, List.length_take]; rfl)) ?_
  with_reducible refine (box_Right.calls t167 t169 t168 t170 t171 _ A19.out).mono ?_
  rintro e w29 ⟨rfl, hb⟩
  refine ⟨_, rfl, ?_⟩
  replace BK161 := bA (bB BK161 hb)
  replace BK162 := bA (bB BK162 hb)
  replace HB := bA (bS hb)
  (try clear hb)
  refine hK.out _ _ ⟨bq BK162 0, bq BK162 1, bq BK162 2, bq BK162 3⟩ (fun hHeld => ?_)
  clear hK K
  refine bI 60 ?_
  refine last_ (i := 3) (N := none) #[true, true, true, true, false] rfl rfl (by kernel_rfl) (by decide) (fun K hK => ?_)
  have hs30 : w29.cell? ⟨gb162, 0, none⟩ = some (.int .i64 t167) := bq BK162 0
  have hfs30 := blk_frozen BK162.out 0
  have hns30_0 := NB161_162.out
  have hms30_0 := NB162_161.out
  have hs31 : w29.cell? ⟨gb162, 1, none⟩ = some (.int .i64 t169) := bq BK162 1
  have hfs31 := blk_frozen BK162.out 1
  have hns31_0 := NB161_162.out
  have hms31_0 := NB162_161.out
  have hs32 : w29.cell? ⟨gb162, 2, none⟩ = some (.int .i64 t168) := bq BK162 2
  have hfs32 := blk_frozen BK162.out 2
  have hns32_0 := NB161_162.out
  have hms32_0 := NB162_161.out
  have hs33 : w29.cell? ⟨gb162, 3, none⟩ = some (.int .i64 t170) := bq BK162 3
  have hfs33 := blk_frozen BK162.out 3
  have hns33_0 := NB161_162.out
  have hms33_0 := NB162_161.out
  refine skip_ (w1 := ?_) (by rfl) rfl ?_ ?_
  rotate_left
  ·go_simp
   rfl
  refine hK.out _ _ ?_
  clear hK K
  refine pure_ (i := 4) (N := some 7) (v := ?_) (a' := ?_) #[true, true, true, true, true] rfl rfl (by kernel_rfl) (fun _ _ _ h => h) (Or.inl ⟨by rfl, ?_⟩) ?_ ?_
  rotate_left
  ·intro w'
   go_simp
   with_reducible rfl
  rotate_left
  ·simp only [Act.put, List.setIfInBounds_toArray, List.set_cons_zero, List.set_cons_succ, i64_w, i32_w]
   rfl
  refine done_ (by kernel_rfl) ?_
  try go_wp2
  refine bodyPost_ret (results_ct rfl _ _ gb162 30 #[.int .i64 t167, .int .i64 t169, .int .i64 t168, .int .i64 t170] (0, 0) _ rfl (by (with_reducible repeat (first | refine blk_drewN ?_ _ | refine blk_drew ?_ | refine blk_alloc ?_ _)); refine blk_put (cs := #[.int .i64 t167, .int .i64 t169, .int .i64 t168, .int .i64 t170]) ?_ 3 _ rfl; (with_reducible repeat (first | refine blk_drewN ?_ _ | refine blk_drew ?_ | refine blk_alloc ?_ _)); refine blk_put (cs := #[.int .i64 t167, .int .i64 t169, .int .i64 t168, .int .i64 t170]) ?_ 2 _ rfl; (with_reducible repeat (first | refine blk_drewN ?_ _ | refine blk_drew ?_ | refine blk_alloc ?_ _)); refine blk_put (cs := #[.int .i64 t167, .int .i64 t169, .int .i64 t168, .int .i64 t170]) ?_ 1 _ rfl; (with_reducible repeat (first | refine blk_drewN ?_ _ | refine blk_drew ?_ | refine blk_alloc ?_ _)); refine blk_put (cs := #[.int .i64 t167, .int .i64 t169, .int .i64 t168, .int .i64 t170]) ?_ 0 _ rfl; (with_reducible repeat (first | refine blk_drewN ?_ _ | refine blk_drew ?_ | refine blk_alloc ?_ _)); exact BK162.out) Try.underlying30 rfl (by kernel_rfl)) rfl ?_
  exact bF
/-! ### wide_Wide_Sub: function 57 -/
def wide_Wide_Sub.f (a0_0 : Int) (a0_1 : Int) (a1_0 : Int) (a1_1 : Int) : Option (Int × Int × Bool) := if (sub64c a0_1 a1_1 0) ≤ 1 then (if (Go.bits .and .i64 (Go.bits .xor .i64 a0_0 a1_0) (Go.bits .xor .i64 a0_0 (wrap64 (sub64s (IntKind.u64.wrap (a0_0)) (IntKind.u64.wrap (a1_0)) (sub64c a0_1 a1_1 0))))) < 0 then (some (0, 0, false)) else (some (wrap64 (sub64s (IntKind.u64.wrap (a0_0)) (IntKind.u64.wrap (a1_0)) (sub64c a0_1 a1_1 0)), sub64s a0_1 a1_1 0, true))) else (none)
set_option maxHeartbeats 8000000 in
set_option maxRecDepth 100000 in
theorem wide_Wide_Sub.calls (a0_0 : Int) (a0_1 : Int) (a1_0 : Int) (a1_1 : Int) (r1 : Int) (r2 : Int) (r3 : Bool) (w : World) (h : wide_Wide_Sub.f a0_0 a0_1 a1_0 a1_1 = some (r1, r2, r3)) :
  Calls Try.prog 57 #[.agg #[.int .i64 a0_0, .int .u64 a0_1], .agg #[.int .i64 a1_0, .int .u64 a1_1]] w fun e w' => e = .returned (.tuple #[.agg #[.int .i64 r1, .int .u64 r2], .bool r3]) ∧ Below w.heap.size w w' := by
 have hu84 := Try.underlying84
 have HB := bA (Below.refl w.heap.size w)
 have H : (if (sub64c a0_1 a1_1 0) ≤ 1 then (if (Go.bits .and .i64 (Go.bits .xor .i64 a0_0 a1_0) (Go.bits .xor .i64 a0_0 (wrap64 (sub64s (IntKind.u64.wrap (a0_0)) (IntKind.u64.wrap (a1_0)) (sub64c a0_1 a1_1 0))))) < 0 then (some (0, 0, false)) else (some (wrap64 (sub64s (IntKind.u64.wrap (a0_0)) (IntKind.u64.wrap (a1_0)) (sub64c a0_1 a1_1 0)), sub64s a0_1 a1_1 0, true))) else (none)) = some (r1, r2, r3) := h
 clear h
 by_cases c3 : (sub64c a0_1 a1_1 0) ≤ 1
 rw [if_pos c3] at H
 have c3b0 : decide ((sub64c a0_1 a1_1 0) ≤ 1) = true := decide_eq_true c3
 clear c3
 by_cases c4 : (Go.bits .and .i64 (Go.bits .xor .i64 a0_0 a1_0) (Go.bits .xor .i64 a0_0 (wrap64 (sub64s (IntKind.u64.wrap (a0_0)) (IntKind.u64.wrap (a1_0)) (sub64c a0_1 a1_1 0))))) < 0
 rw [if_pos c4] at H
 have c4b0 : decide ((Go.bits .and .i64 (Go.bits .xor .i64 a0_0 a1_0) (Go.bits .xor .i64 a0_0 (wrap64 (sub64s (IntKind.u64.wrap (a0_0)) (IntKind.u64.wrap (a1_0)) (sub64c a0_1 a1_1 0))))) < 0) = true := decide_eq_true c4
 clear c4
 simp only [Option.some.injEq, Prod.mk.injEq] at H
 obtain ⟨rfl, rfl, rfl⟩ := H
 rotate_left
 rw [if_neg c4] at H
 have c4b0 : decide ((Go.bits .and .i64 (Go.bits .xor .i64 a0_0 a1_0) (Go.bits .xor .i64 a0_0 (wrap64 (sub64s (IntKind.u64.wrap (a0_0)) (IntKind.u64.wrap (a1_0)) (sub64c a0_1 a1_1 0))))) < 0) = false := decide_eq_false c4
 clear c4
 simp only [Option.some.injEq, Prod.mk.injEq] at H
 obtain ⟨rfl, rfl, rfl⟩ := H
 rotate_left
 rw [if_neg c3] at H
 exact absurd H (by simp)
 all_goals go_enter Try.func57, Try.ntmps57
 all_goals go_wp2_with (first | ((with_reducible refine gate_dst (N := 2) rfl ?_); refine bE (N := 2) (cs := #[.int .i64 a0_0, .int .u64 a0_1]) (t := 84) ?_; intro gb172 hg wz0 hbox hb; have BK172 := bA (hbox); have GW172 := bA (bZ hg); have GE172 := bA (bZ hg); replace HB := bA (bS hb); clear hb hbox hg) | ((with_reducible refine gate_dst (N := 3) rfl ?_); refine bE (N := 3) (cs := #[.int .i64 a1_0, .int .u64 a1_1]) (t := 84) ?_; intro gb173 hg wz1 hbox hb; have BK173 := bA (hbox); have GW173 := bA (bZ hg); have GE173 := bA (bZ hg); have NB172_173 := bA (bL BK172 hg); have NB173_172 := bA (bG BK172 hg); replace BK172 := bA (bB BK172 hb); replace HB := bA (bS hb); clear hb hbox hg) | ((with_reducible refine gate_dst (N := 4) rfl ?_); refine bE (N := 4) (cs := #[.int .i64 0, .int .u64 0]) (t := 84) ?_; intro gb174 hg wz2 hbox hb; have BK174 := bA (hbox); have GW174 := bA (bZ hg); have GE174 := bA (bZ hg); have NB172_174 := bA (bL BK172 hg); have NB174_172 := bA (bG BK172 hg); have NB173_174 := bA (bL BK173 hg); have NB174_173 := bA (bG BK173 hg); replace BK172 := bA (bB BK172 hb); replace BK173 := bA (bB BK173 hb); replace HB := bA (bS hb); clear hb hbox hg; have hz1 := NB172_173.out; have hz2 := NB173_172.out; have hz3 := NB172_174.out; have hz4 := NB174_172.out; obtain ⟨hz5, hz6, hz7, hz8⟩ := bc2 BK172; have hz9 := NB173_174.out; have hz10 := NB174_173.out; obtain ⟨hz11, hz12, hz13, hz14⟩ := bc2 BK173) | ((with_reducible refine gate_dst (N := 10) rfl ?_); refine bE (N := 10) (cs := #[.int .i64 0, .int .u64 0]) (t := 84) ?_; intro gb175 hg wz3 hbox hb; have BK175 := bA (hbox); have GW175 := bA (bZ hg); have GE175 := bA (bZ hg); have NB172_175 := bA (bL BK172 hg); have NB175_172 := bA (bG BK172 hg); have NB173_175 := bA (bL BK173 hg); have NB175_173 := bA (bG BK173 hg); have NB174_175 := bA (bL BK174 hg); have NB175_174 := bA (bG BK174 hg); replace BK172 := bA (bB BK172 hb); replace BK173 := bA (bB BK173 hb); replace BK174 := bA (bB BK174 hb); replace HB := bA (bS hb); clear hb hbox hg; have hz15 := NB175_172.out; have hz16 := NB172_175.out; have hz17 := NB175_173.out; have hz18 := NB173_175.out; have hz19 := NB175_174.out; have hz20 := NB174_175.out; obtain ⟨hz21, hz22, hz23, hz24⟩ := bc2 BK175; obtain ⟨hz25, hz26, hz7, hz8⟩ := bc2 BK172; obtain ⟨hz27, hz28, hz13, hz14⟩ := bc2 BK173; obtain ⟨hz29, hz30, hz31, hz32⟩ := bc2 BK174))
 ·refine bodyPost_ret (results_ct rfl _ _ gb174 84 #[.int .i64 0, .int .u64 0] (0, 0) _ rfl (by (with_reducible repeat (first | refine blk_drewN ?_ _ | refine blk_drew ?_ | refine blk_alloc ?_ _)); refine blk_put (cs := #[.int .i64 0, .int .u64 0]) ?_ 1 _ rfl; (with_reducible repeat (first | refine blk_drewN ?_ _ | refine blk_drew ?_ | refine blk_alloc ?_ _)); refine blk_put (cs := #[.int .i64 0, .int .u64 0]) ?_ 0 _ rfl; (repeat ((with_reducible repeat (first | refine blk_drewN ?_ _ | refine blk_drew ?_ | refine blk_alloc ?_ _)); refine blk_far ?_ NB174_175.out _)); (with_reducible repeat (first | refine blk_drewN ?_ _ | refine blk_drew ?_ | refine blk_alloc ?_ _)); exact BK174.out) Try.underlying84 rfl (by kernel_rfl)) rfl ?_
  exact bF
 refine bodyPost_ret (results_ct rfl _ _ gb174 84 #[.int .i64 (wrap64 (sub64s (IntKind.u64.wrap (a0_0)) (IntKind.u64.wrap (a1_0)) (sub64c a0_1 a1_1 0))), .int .u64 (sub64s a0_1 a1_1 0)] (0, 0) _ rfl (by (with_reducible repeat (first | refine blk_drewN ?_ _ | refine blk_drew ?_ | refine blk_alloc ?_ _)); refine blk_put (cs := #[.int .i64 (wrap64 (sub64s (IntKind.u64.wrap (a0_0)) (IntKind.u64.wrap (a1_0)) (sub64c a0_1 a1_1 0))), .int .u64 0]) ?_ 1 _ rfl; (with_reducible repeat (first | refine blk_drewN ?_ _ | refine blk_drew ?_ | refine blk_alloc ?_ _)); refine blk_put (cs := #[.int .i64 0, .int .u64 0]) ?_ 0 _ rfl; (repeat ((with_reducible repeat (first | refine blk_drewN ?_ _ | refine blk_drew ?_ | refine blk_alloc ?_ _)); refine blk_far ?_ NB174_175.out _)); (with_reducible repeat (first | refine blk_drewN ?_ _ | refine blk_drew ?_ | refine blk_alloc ?_ _)); exact BK174.out) Try.underlying84 rfl (by kernel_rfl)) rfl ?_
 exact bF
/-! ### wide_Wide_Neg: function 56 -/
def wide_Wide_Neg.f (a0_0 : Int) (a0_1 : Int) : Option (Int × Int × Bool) := (wide_Wide_Sub.f 0 0 a0_0 a0_1).bind fun bt178 => (some (bt178.1, bt178.2.1, bt178.2.2))
set_option maxHeartbeats 8000000 in
set_option maxRecDepth 100000 in
theorem wide_Wide_Neg.calls (a0_0 : Int) (a0_1 : Int) (r1 : Int) (r2 : Int) (r3 : Bool) (w : World) (h : wide_Wide_Neg.f a0_0 a0_1 = some (r1, r2, r3)) :
  Calls Try.prog 56 #[.agg #[.int .i64 a0_0, .int .u64 a0_1]] w fun e w' => e = .returned (.tuple #[.agg #[.int .i64 r1, .int .u64 r2], .bool r3]) ∧ Below w.heap.size w w' := by
 have hu84 := Try.underlying84
 have HB := bA (Below.refl w.heap.size w)
 have H : ((wide_Wide_Sub.f 0 0 a0_0 a0_1).bind fun bt178 => (some (bt178.1, bt178.2.1, bt178.2.2))) = some (r1, r2, r3) := h
 clear h
 replace H := Option.bind_eq_some_iff.mp H
 obtain ⟨⟨t178, t179, t180⟩, A20, H⟩ := H
 replace H : (some (t178, t179, t180)) = some (r1, r2, r3) := H
 have A2 := bA A20
 clear A20
 simp only [Option.some.injEq, Prod.mk.injEq] at H
 obtain ⟨rfl, rfl, rfl⟩ := H
 go_enter Try.func56, Try.ntmps56
 go_wp2_with (first | ((with_reducible refine gate_dst (N := 1) rfl ?_); refine bE (N := 1) (cs := #[.int .i64 a0_0, .int .u64 a0_1]) (t := 84) ?_; intro gb176 hg w3 hbox hb; have BK176 := bA (hbox); have GW176 := bA (bZ hg); have GE176 := bA (bZ hg); replace HB := bA (bS hb); clear hb hbox hg) | ((with_reducible refine gate_dst (N := 2) rfl ?_); refine bE (N := 2) (cs := #[.int .i64 0, .int .u64 0]) (t := 84) ?_; intro gb177 hg w4 hbox hb; have BK177 := bA (hbox); have GW177 := bA (bZ hg); have GE177 := bA (bZ hg); have NB176_177 := bA (bL BK176 hg); have NB177_176 := bA (bG BK176 hg); replace BK176 := bA (bB BK176 hb); replace HB := bA (bS hb); clear hb hbox hg; have hnb5 := NB176_177.out; have hnc5 := NB177_176.out; obtain ⟨hcz6_0, hcz6_1, hfz6_0, hfz6_1⟩ := bc2 BK176) | ((first | ((with_reducible refine gate_callee (f := 57) rfl ?_); refine bC (some 6) Try.func57 #[.agg #[.int .i64 0, .int .u64 0], .agg #[.int .i64 a0_0, .int .u64 a0_1]] ?_) | go_at_call 57); (with_reducible refine (wide_Wide_Sub.calls 0 0 a0_0 a0_1 t178 t179 t180 _ A2.out).mono ?_); rintro e w7 ⟨rfl, hb⟩; (first | refine ⟨_, rfl, ?_⟩ | skip); replace BK176 := bA (bB BK176 hb); replace BK177 := bA (bB BK177 hb); replace HB := bA (bS hb); (try clear hb); obtain ⟨hcz8_0, hcz8_1, hfz8_0, hfz8_1⟩ := bc2 BK177))
 refine bodyPost_ret (results_ct rfl _ _ gb177 84 #[.int .i64 t178, .int .u64 t179] (0, 0) _ rfl (by (with_reducible repeat (first | refine blk_drewN ?_ _ | refine blk_drew ?_ | refine blk_alloc ?_ _)); refine blk_put (cs := #[.int .i64 t178, .int .u64 0]) ?_ 1 _ rfl; (with_reducible repeat (first | refine blk_drewN ?_ _ | refine blk_drew ?_ | refine blk_alloc ?_ _)); refine blk_put (cs := #[.int .i64 0, .int .u64 0]) ?_ 0 _ rfl; (with_reducible repeat (first | refine blk_drewN ?_ _ | refine blk_drew ?_ | refine blk_alloc ?_ _)); exact BK177.out) Try.underlying84 rfl (by kernel_rfl)) rfl ?_
 exact bF
/-! ### wide_Wide_Int: function 66 -/
def wide_Wide_Int.f (a0_0 : Int) (a0_1 : Int) : Option (Int × Bool) := (wide_Of.f (wrap64 (a0_1))).bind fun bt182 => (if (!(bt182.1 == a0_0) || (!(bt182.2 == a0_1))) = true then (some (0, false)) else (some (wrap64 (a0_1), true)))
set_option maxHeartbeats 8000000 in
set_option maxRecDepth 100000 in
theorem wide_Wide_Int.calls (a0_0 : Int) (a0_1 : Int) (r1 : Int) (r2 : Bool) (w : World) (h : wide_Wide_Int.f a0_0 a0_1 = some (r1, r2)) :
  Calls Try.prog 66 #[.agg #[.int .i64 a0_0, .int .u64 a0_1]] w fun e w' => e = .returned (.tuple #[.int .i64 r1, .bool r2]) ∧ Below w.heap.size w w' := by
 have hu84 := Try.underlying84
 have HB := bA (Below.refl w.heap.size w)
 have H : ((wide_Of.f (wrap64 (a0_1))).bind fun bt182 => (if (!(bt182.1 == a0_0) || (!(bt182.2 == a0_1))) = true then (some (0, false)) else (some (wrap64 (a0_1), true)))) = some (r1, r2) := h
 clear h
 replace H := Option.bind_eq_some_iff.mp H
 obtain ⟨⟨t182, t183⟩, A20, H⟩ := H
 replace H : (if (!(t182 == a0_0) || (!(t183 == a0_1))) = true then (some (0, false)) else (some (wrap64 (a0_1), true))) = some (r1, r2) := H
 have A2 := bA A20
 clear A20
 by_cases c3 : (!(t182 == a0_0) || (!(t183 == a0_1))) = true
 ·rw [if_pos c3] at H
  have c3b0 : (!(t182 == a0_0) || (!(t183 == a0_1))) = true := c3
  clear c3
  simp only [Option.some.injEq, Prod.mk.injEq] at H
  obtain ⟨rfl, rfl⟩ := H
  go_enter Try.func66, Try.ntmps66
  try go_wp2_with (first | ((with_reducible refine gate_dst (N := 1) rfl ?_); refine bE (N := 1) (cs := #[.int .i64 a0_0, .int .u64 a0_1]) (t := 84) ?_; intro gb181 hg w4 hbox hb; have BK181 := bA (hbox); have GW181 := bA (bZ hg); have GE181 := bA (bZ hg); replace HB := bA (bS hb); clear hb hbox hg; obtain ⟨hcz5_0, hcz5_1, hfz5_0, hfz5_1⟩ := bc2 BK181))
  replace BK181 := bA (blk_drew BK181.out)
  replace HB := bA (below_drew1 HB.out)
  refine start_ (n := 4) (S := fun w' => w'.cell? ⟨gb181, 0, none⟩ = some (.int .i64 a0_0) ∧ w'.cell? ⟨gb181, 1, none⟩ = some (.int .u64 a0_1)) (ds := []) #[false, false, false, false] (by kernel_rfl) rfl rfl ⟨bq BK181 0, bq BK181 1⟩ (fun hHeld => ?_)
  generalize w4.drew = w6 at BK181 HB hHeld ⊢
  refine pure_ (i := 0) (N := some 8) (v := ?_) (a' := ?_) #[true, false, false, false] rfl rfl (by kernel_rfl) (fun _ _ _ h => h) (Or.inl ⟨by rfl, ?_⟩) ?_ ?_
  rotate_left
  ·intro w'
   go_simp
   with_reducible rfl
  rotate_left
  ·simp only [Act.put, List.setIfInBounds_toArray, List.set_cons_zero, List.set_cons_succ, i64_w, i32_w]
   rfl
  refine take_ (i := 2) (N := some 10) (v := ?_) (a' := ?_) #[true, false, true, false] rfl rfl (by kernel_rfl) (fun _ _ _ h => h) (Or.inl ⟨by rfl, ?_⟩) hHeld ?_ ?_
  rotate_left
  ·rintro w' ⟨s0, s1⟩
   go_simp
   with_reducible rfl
  rotate_left
  ·simp only [Act.put, List.setIfInBounds_toArray, List.set_cons_zero, List.set_cons_succ, i64_w, i32_w]
   rfl
  refine one_ (i := 1) (N := some 9) #[true, true, true, false] rfl rfl (by kernel_rfl) (by decide) (fun K hK => ?_)
  refine goes_ Try.func55 (by kernel_rfl) rfl #[.int .i64 (wrap64 (a0_1))] (by rfl) rfl rfl (by (try simp only [List.map_toArray, List.map_cons, List.map_nil]); first | done | rfl | (simp only [List.length_drop, List.length_take]; rfl)) ?_
  with_reducible refine (wide_Of.calls (wrap64 (a0_1)) t182 t183 _ A2.out).mono ?_
  rintro e w7 ⟨rfl, hb⟩
  refine ⟨_, rfl, ?_⟩
  replace BK181 := bA (bB BK181 hb)
  replace HB := bA (bS hb)
  (try clear hb)
  refine hK.out _ _ ⟨bq BK181 0, bq BK181 1⟩ (fun hHeld => ?_)
  clear hK K
  refine bI 9 ?_
  refine pure_ (i := 3) (N := some 11) (v := ?_) (a' := ?_) #[true, true, true, true] rfl rfl (by kernel_rfl) (fun _ _ _ h => h) (Or.inl ⟨by rfl, ?_⟩) ?_ ?_
  rotate_left
  ·intro w'
   go_simp
   with_reducible rfl
  rotate_left
  ·simp only [Act.put, List.setIfInBounds_toArray, List.set_cons_zero, List.set_cons_succ, i64_w, i32_w]
   rfl
  refine done_ (by kernel_rfl) ?_
  try go_wp2
  go_ret2
  exact bF
 rw [if_neg c3] at H
 have c3b0 : (!(t182 == a0_0) || (!(t183 == a0_1))) = false := by simpa using c3
 clear c3
 simp only [Option.some.injEq, Prod.mk.injEq] at H
 obtain ⟨rfl, rfl⟩ := H
 go_enter Try.func66, Try.ntmps66
 try go_wp2_with (first | ((with_reducible refine gate_dst (N := 1) rfl ?_); refine bE (N := 1) (cs := #[.int .i64 a0_0, .int .u64 a0_1]) (t := 84) ?_; intro gb181 hg w8 hbox hb; have BK181 := bA (hbox); have GW181 := bA (bZ hg); have GE181 := bA (bZ hg); replace HB := bA (bS hb); clear hb hbox hg; obtain ⟨hcz9_0, hcz9_1, hfz9_0, hfz9_1⟩ := bc2 BK181))
 replace BK181 := bA (blk_drew BK181.out)
 replace HB := bA (below_drew1 HB.out)
 refine start_ (n := 4) (S := fun w' => w'.cell? ⟨gb181, 0, none⟩ = some (.int .i64 a0_0) ∧ w'.cell? ⟨gb181, 1, none⟩ = some (.int .u64 a0_1)) (ds := []) #[false, false, false, false] (by kernel_rfl) rfl rfl ⟨bq BK181 0, bq BK181 1⟩ (fun hHeld => ?_)
 generalize w8.drew = w10 at BK181 HB hHeld ⊢
 refine pure_ (i := 0) (N := some 8) (v := ?_) (a' := ?_) #[true, false, false, false] rfl rfl (by kernel_rfl) (fun _ _ _ h => h) (Or.inl ⟨by rfl, ?_⟩) ?_ ?_
 rotate_left
 ·intro w'
  go_simp
  with_reducible rfl
 rotate_left
 ·simp only [Act.put, List.setIfInBounds_toArray, List.set_cons_zero, List.set_cons_succ, i64_w, i32_w]
  rfl
 refine take_ (i := 2) (N := some 10) (v := ?_) (a' := ?_) #[true, false, true, false] rfl rfl (by kernel_rfl) (fun _ _ _ h => h) (Or.inl ⟨by rfl, ?_⟩) hHeld ?_ ?_
 rotate_left
 ·rintro w' ⟨s0, s1⟩
  go_simp
  with_reducible rfl
 rotate_left
 ·simp only [Act.put, List.setIfInBounds_toArray, List.set_cons_zero, List.set_cons_succ, i64_w, i32_w]
  rfl
 refine one_ (i := 1) (N := some 9) #[true, true, true, false] rfl rfl (by kernel_rfl) (by decide) (fun K hK => ?_)
 refine goes_ Try.func55 (by kernel_rfl) rfl #[.int .i64 (wrap64 (a0_1))] (by rfl) rfl rfl (by (try simp only [List.map_toArray, List.map_cons, List.map_nil]); first | done | rfl | (simp only [List.length_drop, List.length_take]; rfl)) ?_
 with_reducible refine (wide_Of.calls (wrap64 (a0_1)) t182 t183 _ A2.out).mono ?_
 rintro e w11 ⟨rfl, hb⟩
 refine ⟨_, rfl, ?_⟩
 replace BK181 := bA (bB BK181 hb)
 replace HB := bA (bS hb)
 (try clear hb)
 refine hK.out _ _ ⟨bq BK181 0, bq BK181 1⟩ (fun hHeld => ?_)
 clear hK K
 refine bI 9 ?_
 refine pure_ (i := 3) (N := some 11) (v := ?_) (a' := ?_) #[true, true, true, true] rfl rfl (by kernel_rfl) (fun _ _ _ h => h) (Or.inl ⟨by rfl, ?_⟩) ?_ ?_
 rotate_left
 ·intro w'
  go_simp
  with_reducible rfl
 rotate_left
 ·simp only [Act.put, List.setIfInBounds_toArray, List.set_cons_zero, List.set_cons_succ, i64_w, i32_w]
  rfl
 refine done_ (by kernel_rfl) ?_
 try go_wp2
 go_ret2
 exact bF
/-! ### fix_told: function 54 -/
def fix_told.f (a0_0 : Int) (a0_1 : Int) (a1 : Bool) : Option (Int × Bool) := if a1 = true then ((wide_Wide_Int.f a0_0 a0_1).bind fun bt185 => (some (bt185.1, bt185.2))) else (some (0, false))
set_option maxHeartbeats 8000000 in
set_option maxRecDepth 100000 in
theorem fix_told.calls (a0_0 : Int) (a0_1 : Int) (a1 : Bool) (r1 : Int) (r2 : Bool) (w : World) (h : fix_told.f a0_0 a0_1 a1 = some (r1, r2)) :
  Calls Try.prog 54 #[.agg #[.int .i64 a0_0, .int .u64 a0_1], .bool a1] w fun e w' => e = .returned (.tuple #[.int .i64 r1, .bool r2]) ∧ Below w.heap.size w w' := by
 have hu84 := Try.underlying84
 have HB := bA (Below.refl w.heap.size w)
 have H : (if a1 = true then ((wide_Wide_Int.f a0_0 a0_1).bind fun bt185 => (some (bt185.1, bt185.2))) else (some (0, false))) = some (r1, r2) := h
 clear h
 by_cases c3 : a1 = true
 subst c3
 rw [if_pos rfl] at H
 replace H := Option.bind_eq_some_iff.mp H
 obtain ⟨⟨t185, t186⟩, A40, H⟩ := H
 replace H : (some (t185, t186)) = some (r1, r2) := H
 have A4 := bA A40
 clear A40
 simp only [Option.some.injEq, Prod.mk.injEq] at H
 obtain ⟨rfl, rfl⟩ := H
 rotate_left
 replace c3 := Bool.eq_false_iff.mpr c3
 subst c3
 rw [if_neg bn] at H
 simp only [Option.some.injEq, Prod.mk.injEq] at H
 obtain ⟨rfl, rfl⟩ := H
 rotate_left
 all_goals go_enter Try.func54, Try.ntmps54
 all_goals go_wp2_with (first | ((with_reducible refine gate_dst (N := 2) rfl ?_); refine bE (N := 2) (cs := #[.int .i64 a0_0, .int .u64 a0_1]) (t := 84) ?_; intro gb184 hg wz0 hbox hb; have BK184 := bA (hbox); have GW184 := bA (bZ hg); have GE184 := bA (bZ hg); replace HB := bA (bS hb); clear hb hbox hg; obtain ⟨hz1, hz2, hz3, hz4⟩ := bc2 BK184) | ((first | ((with_reducible refine gate_callee (f := 66) rfl ?_); refine bC (some 9) Try.func66 #[.agg #[.int .i64 a0_0, .int .u64 a0_1]] ?_) | go_at_call 66); (with_reducible refine (wide_Wide_Int.calls a0_0 a0_1 t185 t186 _ A4.out).mono ?_); rintro e wz1 ⟨rfl, hb⟩; (first | refine ⟨_, rfl, ?_⟩ | skip); replace BK184 := bA (bB BK184 hb); replace HB := bA (bS hb); (try clear hb)))
 all_goals (go_ret2; exact bF)
/-! ### fix_Abs: function 45 -/
def fix_Abs.f (a0 : Int) : Option (Int × Bool) := if a0 < 0 then ((wide_Of.f a0).bind fun bt187 => ((wide_Wide_Neg.f bt187.1 bt187.2).bind fun bt189 => ((fix_told.f bt189.1 bt189.2.1 bt189.2.2).bind fun bt192 => (some (bt192.1, bt192.2))))) else (some (a0, true))
set_option maxHeartbeats 8000000 in
set_option maxRecDepth 100000 in
theorem fix_Abs.calls (a0 : Int) (r1 : Int) (r2 : Bool) (w : World) (h : fix_Abs.f a0 = some (r1, r2)) :
  Calls Try.prog 45 #[.int .i64 a0] w fun e w' => e = .returned (.tuple #[.int .i64 r1, .bool r2]) ∧ Below w.heap.size w w' := by
 have HB := bA (Below.refl w.heap.size w)
 have H : (if a0 < 0 then ((wide_Of.f a0).bind fun bt187 => ((wide_Wide_Neg.f bt187.1 bt187.2).bind fun bt189 => ((fix_told.f bt189.1 bt189.2.1 bt189.2.2).bind fun bt192 => (some (bt192.1, bt192.2))))) else (some (a0, true))) = some (r1, r2) := h
 clear h
 by_cases c2 : a0 < 0
 rw [if_pos c2] at H
 have c2b0 : decide (a0 < 0) = true := decide_eq_true c2
 clear c2
 replace H := Option.bind_eq_some_iff.mp H
 obtain ⟨⟨t187, t188⟩, A30, H⟩ := H
 replace H : ((wide_Wide_Neg.f t187 t188).bind fun bt189 => ((fix_told.f bt189.1 bt189.2.1 bt189.2.2).bind fun bt192 => (some (bt192.1, bt192.2)))) = some (r1, r2) := H
 have A3 := bA A30
 clear A30
 replace H := Option.bind_eq_some_iff.mp H
 obtain ⟨⟨t189, t190, t191⟩, A40, H⟩ := H
 replace H : ((fix_told.f t189 t190 t191).bind fun bt192 => (some (bt192.1, bt192.2))) = some (r1, r2) := H
 have A4 := bA A40
 clear A40
 replace H := Option.bind_eq_some_iff.mp H
 obtain ⟨⟨t192, t193⟩, A50, H⟩ := H
 replace H : (some (t192, t193)) = some (r1, r2) := H
 have A5 := bA A50
 clear A50
 simp only [Option.some.injEq, Prod.mk.injEq] at H
 obtain ⟨rfl, rfl⟩ := H
 rotate_left
 rw [if_neg c2] at H
 have c2b0 : decide (a0 < 0) = false := decide_eq_false c2
 clear c2
 simp only [Option.some.injEq, Prod.mk.injEq] at H
 obtain ⟨rfl, rfl⟩ := H
 rotate_left
 all_goals go_enter Try.func45, Try.ntmps45
 all_goals go_wp2_with (first | ((first | ((with_reducible refine gate_callee (f := 55) rfl ?_); refine bC (some 7) Try.func55 #[.int .i64 a0] ?_) | go_at_call 55); (with_reducible refine (wide_Of.calls a0 t187 t188 _ A3.out).mono ?_); rintro e wz0 ⟨rfl, hb⟩; (first | refine ⟨_, rfl, ?_⟩ | skip); replace HB := bA (bS hb); (try clear hb)) | ((first | ((with_reducible refine gate_callee (f := 56) rfl ?_); refine bC (some 8) Try.func56 #[.agg #[.int .i64 t187, .int .u64 t188]] ?_) | go_at_call 56); (with_reducible refine (wide_Wide_Neg.calls t187 t188 t189 t190 t191 _ A4.out).mono ?_); rintro e wz1 ⟨rfl, hb⟩; (first | refine ⟨_, rfl, ?_⟩ | skip); replace HB := bA (bS hb); (try clear hb)) | ((first | ((with_reducible refine gate_callee (f := 54) rfl ?_); refine bC (some 11) Try.func54 #[.agg #[.int .i64 t189, .int .u64 t190], .bool t191] ?_) | go_at_call 54); (with_reducible refine (fix_told.calls t189 t190 t191 t192 t193 _ A5.out).mono ?_); rintro e wz2 ⟨rfl, hb⟩; (first | refine ⟨_, rfl, ?_⟩ | skip); replace HB := bA (bS hb); (try clear hb)))
 all_goals (go_ret2; exact bF)
/-! ### fix_Sub: function 46 -/
def fix_Sub.f (a0 : Int) (a1 : Int) : Option (Int × Bool) := (wide_Of.f a0).bind fun bt194 => ((wide_Of.f a1).bind fun bt196 => ((wide_Wide_Sub.f bt194.1 bt194.2 bt196.1 bt196.2).bind fun bt198 => ((fix_told.f bt198.1 bt198.2.1 bt198.2.2).bind fun bt201 => (some (bt201.1, bt201.2)))))
set_option maxHeartbeats 8000000 in
set_option maxRecDepth 100000 in
theorem fix_Sub.calls (a0 : Int) (a1 : Int) (r1 : Int) (r2 : Bool) (w : World) (h : fix_Sub.f a0 a1 = some (r1, r2)) :
  Calls Try.prog 46 #[.int .i64 a0, .int .i64 a1] w fun e w' => e = .returned (.tuple #[.int .i64 r1, .bool r2]) ∧ Below w.heap.size w w' := by
 have HB := bA (Below.refl w.heap.size w)
 have H : ((wide_Of.f a0).bind fun bt194 => ((wide_Of.f a1).bind fun bt196 => ((wide_Wide_Sub.f bt194.1 bt194.2 bt196.1 bt196.2).bind fun bt198 => ((fix_told.f bt198.1 bt198.2.1 bt198.2.2).bind fun bt201 => (some (bt201.1, bt201.2)))))) = some (r1, r2) := h
 clear h
 replace H := Option.bind_eq_some_iff.mp H
 obtain ⟨⟨t194, t195⟩, A30, H⟩ := H
 replace H : ((wide_Of.f a1).bind fun bt196 => ((wide_Wide_Sub.f t194 t195 bt196.1 bt196.2).bind fun bt198 => ((fix_told.f bt198.1 bt198.2.1 bt198.2.2).bind fun bt201 => (some (bt201.1, bt201.2))))) = some (r1, r2) := H
 have A3 := bA A30
 clear A30
 replace H := Option.bind_eq_some_iff.mp H
 obtain ⟨⟨t196, t197⟩, A40, H⟩ := H
 replace H : ((wide_Wide_Sub.f t194 t195 t196 t197).bind fun bt198 => ((fix_told.f bt198.1 bt198.2.1 bt198.2.2).bind fun bt201 => (some (bt201.1, bt201.2)))) = some (r1, r2) := H
 have A4 := bA A40
 clear A40
 replace H := Option.bind_eq_some_iff.mp H
 obtain ⟨⟨t198, t199, t200⟩, A50, H⟩ := H
 replace H : ((fix_told.f t198 t199 t200).bind fun bt201 => (some (bt201.1, bt201.2))) = some (r1, r2) := H
 have A5 := bA A50
 clear A50
 replace H := Option.bind_eq_some_iff.mp H
 obtain ⟨⟨t201, t202⟩, A60, H⟩ := H
 replace H : (some (t201, t202)) = some (r1, r2) := H
 have A6 := bA A60
 clear A60
 simp only [Option.some.injEq, Prod.mk.injEq] at H
 obtain ⟨rfl, rfl⟩ := H
 go_enter Try.func46, Try.ntmps46
 go_wp2_with (first | ((first | ((with_reducible refine gate_callee (f := 55) rfl ?_); refine bC (some 7) Try.func55 #[.int .i64 a0] ?_) | go_at_call 55); (with_reducible refine (wide_Of.calls a0 t194 t195 _ A3.out).mono ?_); rintro e w7 ⟨rfl, hb⟩; (first | refine ⟨_, rfl, ?_⟩ | skip); replace HB := bA (bS hb); (try clear hb)) | ((first | ((with_reducible refine gate_callee (f := 55) rfl ?_); refine bC (some 9) Try.func55 #[.int .i64 a1] ?_) | go_at_call 55); (with_reducible refine (wide_Of.calls a1 t196 t197 _ A4.out).mono ?_); rintro e w8 ⟨rfl, hb⟩; (first | refine ⟨_, rfl, ?_⟩ | skip); replace HB := bA (bS hb); (try clear hb)) | ((first | ((with_reducible refine gate_callee (f := 57) rfl ?_); refine bC (some 10) Try.func57 #[.agg #[.int .i64 t194, .int .u64 t195], .agg #[.int .i64 t196, .int .u64 t197]] ?_) | go_at_call 57); (with_reducible refine (wide_Wide_Sub.calls t194 t195 t196 t197 t198 t199 t200 _ A5.out).mono ?_); rintro e w9 ⟨rfl, hb⟩; (first | refine ⟨_, rfl, ?_⟩ | skip); replace HB := bA (bS hb); (try clear hb)) | ((first | ((with_reducible refine gate_callee (f := 54) rfl ?_); refine bC (some 13) Try.func54 #[.agg #[.int .i64 t198, .int .u64 t199], .bool t200] ?_) | go_at_call 54); (with_reducible refine (fix_told.calls t198 t199 t200 t201 t202 _ A6.out).mono ?_); rintro e w10 ⟨rfl, hb⟩; (first | refine ⟨_, rfl, ?_⟩ | skip); replace HB := bA (bS hb); (try clear hb)))
 go_ret2
 exact bF
/-! ### wide_Wide_Add: function 58 -/
def wide_Wide_Add.f (a0_0 : Int) (a0_1 : Int) (a1_0 : Int) (a1_1 : Int) : Option (Int × Int × Bool) := if (add64c a0_1 a1_1 0) ≤ 1 then (if (Go.bits .and .i64 (Go.bits .xor .i64 a0_0 (wrap64 (add64s (IntKind.u64.wrap (a0_0)) (IntKind.u64.wrap (a1_0)) (add64c a0_1 a1_1 0)))) (Go.bits .xor .i64 a1_0 (wrap64 (add64s (IntKind.u64.wrap (a0_0)) (IntKind.u64.wrap (a1_0)) (add64c a0_1 a1_1 0))))) < 0 then (some (0, 0, false)) else (some (wrap64 (add64s (IntKind.u64.wrap (a0_0)) (IntKind.u64.wrap (a1_0)) (add64c a0_1 a1_1 0)), add64s a0_1 a1_1 0, true))) else (none)
set_option maxHeartbeats 8000000 in
set_option maxRecDepth 100000 in
theorem wide_Wide_Add.calls (a0_0 : Int) (a0_1 : Int) (a1_0 : Int) (a1_1 : Int) (r1 : Int) (r2 : Int) (r3 : Bool) (w : World) (h : wide_Wide_Add.f a0_0 a0_1 a1_0 a1_1 = some (r1, r2, r3)) :
  Calls Try.prog 58 #[.agg #[.int .i64 a0_0, .int .u64 a0_1], .agg #[.int .i64 a1_0, .int .u64 a1_1]] w fun e w' => e = .returned (.tuple #[.agg #[.int .i64 r1, .int .u64 r2], .bool r3]) ∧ Below w.heap.size w w' := by
 have hu84 := Try.underlying84
 have HB := bA (Below.refl w.heap.size w)
 have H : (if (add64c a0_1 a1_1 0) ≤ 1 then (if (Go.bits .and .i64 (Go.bits .xor .i64 a0_0 (wrap64 (add64s (IntKind.u64.wrap (a0_0)) (IntKind.u64.wrap (a1_0)) (add64c a0_1 a1_1 0)))) (Go.bits .xor .i64 a1_0 (wrap64 (add64s (IntKind.u64.wrap (a0_0)) (IntKind.u64.wrap (a1_0)) (add64c a0_1 a1_1 0))))) < 0 then (some (0, 0, false)) else (some (wrap64 (add64s (IntKind.u64.wrap (a0_0)) (IntKind.u64.wrap (a1_0)) (add64c a0_1 a1_1 0)), add64s a0_1 a1_1 0, true))) else (none)) = some (r1, r2, r3) := h
 clear h
 by_cases c3 : (add64c a0_1 a1_1 0) ≤ 1
 rw [if_pos c3] at H
 have c3b0 : decide ((add64c a0_1 a1_1 0) ≤ 1) = true := decide_eq_true c3
 clear c3
 by_cases c4 : (Go.bits .and .i64 (Go.bits .xor .i64 a0_0 (wrap64 (add64s (IntKind.u64.wrap (a0_0)) (IntKind.u64.wrap (a1_0)) (add64c a0_1 a1_1 0)))) (Go.bits .xor .i64 a1_0 (wrap64 (add64s (IntKind.u64.wrap (a0_0)) (IntKind.u64.wrap (a1_0)) (add64c a0_1 a1_1 0))))) < 0
 rw [if_pos c4] at H
 have c4b0 : decide ((Go.bits .and .i64 (Go.bits .xor .i64 a0_0 (wrap64 (add64s (IntKind.u64.wrap (a0_0)) (IntKind.u64.wrap (a1_0)) (add64c a0_1 a1_1 0)))) (Go.bits .xor .i64 a1_0 (wrap64 (add64s (IntKind.u64.wrap (a0_0)) (IntKind.u64.wrap (a1_0)) (add64c a0_1 a1_1 0))))) < 0) = true := decide_eq_true c4
 clear c4
 simp only [Option.some.injEq, Prod.mk.injEq] at H
 obtain ⟨rfl, rfl, rfl⟩ := H
 rotate_left
 rw [if_neg c4] at H
 have c4b0 : decide ((Go.bits .and .i64 (Go.bits .xor .i64 a0_0 (wrap64 (add64s (IntKind.u64.wrap (a0_0)) (IntKind.u64.wrap (a1_0)) (add64c a0_1 a1_1 0)))) (Go.bits .xor .i64 a1_0 (wrap64 (add64s (IntKind.u64.wrap (a0_0)) (IntKind.u64.wrap (a1_0)) (add64c a0_1 a1_1 0))))) < 0) = false := decide_eq_false c4
 clear c4
 simp only [Option.some.injEq, Prod.mk.injEq] at H
 obtain ⟨rfl, rfl, rfl⟩ := H
 rotate_left
 rw [if_neg c3] at H
 exact absurd H (by simp)
 all_goals go_enter Try.func58, Try.ntmps58
 all_goals go_wp2_with (first | ((with_reducible refine gate_dst (N := 2) rfl ?_); refine bE (N := 2) (cs := #[.int .i64 a0_0, .int .u64 a0_1]) (t := 84) ?_; intro gb203 hg wz0 hbox hb; have BK203 := bA (hbox); have GW203 := bA (bZ hg); have GE203 := bA (bZ hg); replace HB := bA (bS hb); clear hb hbox hg) | ((with_reducible refine gate_dst (N := 3) rfl ?_); refine bE (N := 3) (cs := #[.int .i64 a1_0, .int .u64 a1_1]) (t := 84) ?_; intro gb204 hg wz1 hbox hb; have BK204 := bA (hbox); have GW204 := bA (bZ hg); have GE204 := bA (bZ hg); have NB203_204 := bA (bL BK203 hg); have NB204_203 := bA (bG BK203 hg); replace BK203 := bA (bB BK203 hb); replace HB := bA (bS hb); clear hb hbox hg) | ((with_reducible refine gate_dst (N := 4) rfl ?_); refine bE (N := 4) (cs := #[.int .i64 0, .int .u64 0]) (t := 84) ?_; intro gb205 hg wz2 hbox hb; have BK205 := bA (hbox); have GW205 := bA (bZ hg); have GE205 := bA (bZ hg); have NB203_205 := bA (bL BK203 hg); have NB205_203 := bA (bG BK203 hg); have NB204_205 := bA (bL BK204 hg); have NB205_204 := bA (bG BK204 hg); replace BK203 := bA (bB BK203 hb); replace BK204 := bA (bB BK204 hb); replace HB := bA (bS hb); clear hb hbox hg; have hz1 := NB203_204.out; have hz2 := NB204_203.out; have hz3 := NB203_205.out; have hz4 := NB205_203.out; obtain ⟨hz5, hz6, hz7, hz8⟩ := bc2 BK203; have hz9 := NB204_205.out; have hz10 := NB205_204.out; obtain ⟨hz11, hz12, hz13, hz14⟩ := bc2 BK204) | ((with_reducible refine gate_dst (N := 10) rfl ?_); refine bE (N := 10) (cs := #[.int .i64 0, .int .u64 0]) (t := 84) ?_; intro gb206 hg wz3 hbox hb; have BK206 := bA (hbox); have GW206 := bA (bZ hg); have GE206 := bA (bZ hg); have NB203_206 := bA (bL BK203 hg); have NB206_203 := bA (bG BK203 hg); have NB204_206 := bA (bL BK204 hg); have NB206_204 := bA (bG BK204 hg); have NB205_206 := bA (bL BK205 hg); have NB206_205 := bA (bG BK205 hg); replace BK203 := bA (bB BK203 hb); replace BK204 := bA (bB BK204 hb); replace BK205 := bA (bB BK205 hb); replace HB := bA (bS hb); clear hb hbox hg; have hz15 := NB206_203.out; have hz16 := NB203_206.out; have hz17 := NB206_204.out; have hz18 := NB204_206.out; have hz19 := NB206_205.out; have hz20 := NB205_206.out; obtain ⟨hz21, hz22, hz23, hz24⟩ := bc2 BK206; obtain ⟨hz25, hz26, hz7, hz8⟩ := bc2 BK203; obtain ⟨hz27, hz28, hz13, hz14⟩ := bc2 BK204; obtain ⟨hz29, hz30, hz31, hz32⟩ := bc2 BK205))
 ·refine bodyPost_ret (results_ct rfl _ _ gb205 84 #[.int .i64 0, .int .u64 0] (0, 0) _ rfl (by (with_reducible repeat (first | refine blk_drewN ?_ _ | refine blk_drew ?_ | refine blk_alloc ?_ _)); refine blk_put (cs := #[.int .i64 0, .int .u64 0]) ?_ 1 _ rfl; (with_reducible repeat (first | refine blk_drewN ?_ _ | refine blk_drew ?_ | refine blk_alloc ?_ _)); refine blk_put (cs := #[.int .i64 0, .int .u64 0]) ?_ 0 _ rfl; (repeat ((with_reducible repeat (first | refine blk_drewN ?_ _ | refine blk_drew ?_ | refine blk_alloc ?_ _)); refine blk_far ?_ NB205_206.out _)); (with_reducible repeat (first | refine blk_drewN ?_ _ | refine blk_drew ?_ | refine blk_alloc ?_ _)); exact BK205.out) Try.underlying84 rfl (by kernel_rfl)) rfl ?_
  exact bF
 refine bodyPost_ret (results_ct rfl _ _ gb205 84 #[.int .i64 (wrap64 (add64s (IntKind.u64.wrap (a0_0)) (IntKind.u64.wrap (a1_0)) (add64c a0_1 a1_1 0))), .int .u64 (add64s a0_1 a1_1 0)] (0, 0) _ rfl (by (with_reducible repeat (first | refine blk_drewN ?_ _ | refine blk_drew ?_ | refine blk_alloc ?_ _)); refine blk_put (cs := #[.int .i64 (wrap64 (add64s (IntKind.u64.wrap (a0_0)) (IntKind.u64.wrap (a1_0)) (add64c a0_1 a1_1 0))), .int .u64 0]) ?_ 1 _ rfl; (with_reducible repeat (first | refine blk_drewN ?_ _ | refine blk_drew ?_ | refine blk_alloc ?_ _)); refine blk_put (cs := #[.int .i64 0, .int .u64 0]) ?_ 0 _ rfl; (repeat ((with_reducible repeat (first | refine blk_drewN ?_ _ | refine blk_drew ?_ | refine blk_alloc ?_ _)); refine blk_far ?_ NB205_206.out _)); (with_reducible repeat (first | refine blk_drewN ?_ _ | refine blk_drew ?_ | refine blk_alloc ?_ _)); exact BK205.out) Try.underlying84 rfl (by kernel_rfl)) rfl ?_
 exact bF
/-! ### fix_Add: function 47 -/
def fix_Add.f (a0 : Int) (a1 : Int) : Option (Int × Bool) := (wide_Of.f a0).bind fun bt207 => ((wide_Of.f a1).bind fun bt209 => ((wide_Wide_Add.f bt207.1 bt207.2 bt209.1 bt209.2).bind fun bt211 => ((fix_told.f bt211.1 bt211.2.1 bt211.2.2).bind fun bt214 => (some (bt214.1, bt214.2)))))
set_option maxHeartbeats 8000000 in
set_option maxRecDepth 100000 in
theorem fix_Add.calls (a0 : Int) (a1 : Int) (r1 : Int) (r2 : Bool) (w : World) (h : fix_Add.f a0 a1 = some (r1, r2)) :
  Calls Try.prog 47 #[.int .i64 a0, .int .i64 a1] w fun e w' => e = .returned (.tuple #[.int .i64 r1, .bool r2]) ∧ Below w.heap.size w w' := by
 have HB := bA (Below.refl w.heap.size w)
 have H : ((wide_Of.f a0).bind fun bt207 => ((wide_Of.f a1).bind fun bt209 => ((wide_Wide_Add.f bt207.1 bt207.2 bt209.1 bt209.2).bind fun bt211 => ((fix_told.f bt211.1 bt211.2.1 bt211.2.2).bind fun bt214 => (some (bt214.1, bt214.2)))))) = some (r1, r2) := h
 clear h
 replace H := Option.bind_eq_some_iff.mp H
 obtain ⟨⟨t207, t208⟩, A30, H⟩ := H
 replace H : ((wide_Of.f a1).bind fun bt209 => ((wide_Wide_Add.f t207 t208 bt209.1 bt209.2).bind fun bt211 => ((fix_told.f bt211.1 bt211.2.1 bt211.2.2).bind fun bt214 => (some (bt214.1, bt214.2))))) = some (r1, r2) := H
 have A3 := bA A30
 clear A30
 replace H := Option.bind_eq_some_iff.mp H
 obtain ⟨⟨t209, t210⟩, A40, H⟩ := H
 replace H : ((wide_Wide_Add.f t207 t208 t209 t210).bind fun bt211 => ((fix_told.f bt211.1 bt211.2.1 bt211.2.2).bind fun bt214 => (some (bt214.1, bt214.2)))) = some (r1, r2) := H
 have A4 := bA A40
 clear A40
 replace H := Option.bind_eq_some_iff.mp H
 obtain ⟨⟨t211, t212, t213⟩, A50, H⟩ := H
 replace H : ((fix_told.f t211 t212 t213).bind fun bt214 => (some (bt214.1, bt214.2))) = some (r1, r2) := H
 have A5 := bA A50
 clear A50
 replace H := Option.bind_eq_some_iff.mp H
 obtain ⟨⟨t214, t215⟩, A60, H⟩ := H
 replace H : (some (t214, t215)) = some (r1, r2) := H
 have A6 := bA A60
 clear A60
 simp only [Option.some.injEq, Prod.mk.injEq] at H
 obtain ⟨rfl, rfl⟩ := H
 go_enter Try.func47, Try.ntmps47
 go_wp2_with (first | ((first | ((with_reducible refine gate_callee (f := 55) rfl ?_); refine bC (some 7) Try.func55 #[.int .i64 a0] ?_) | go_at_call 55); (with_reducible refine (wide_Of.calls a0 t207 t208 _ A3.out).mono ?_); rintro e w7 ⟨rfl, hb⟩; (first | refine ⟨_, rfl, ?_⟩ | skip); replace HB := bA (bS hb); (try clear hb)) | ((first | ((with_reducible refine gate_callee (f := 55) rfl ?_); refine bC (some 9) Try.func55 #[.int .i64 a1] ?_) | go_at_call 55); (with_reducible refine (wide_Of.calls a1 t209 t210 _ A4.out).mono ?_); rintro e w8 ⟨rfl, hb⟩; (first | refine ⟨_, rfl, ?_⟩ | skip); replace HB := bA (bS hb); (try clear hb)) | ((first | ((with_reducible refine gate_callee (f := 58) rfl ?_); refine bC (some 10) Try.func58 #[.agg #[.int .i64 t207, .int .u64 t208], .agg #[.int .i64 t209, .int .u64 t210]] ?_) | go_at_call 58); (with_reducible refine (wide_Wide_Add.calls t207 t208 t209 t210 t211 t212 t213 _ A5.out).mono ?_); rintro e w9 ⟨rfl, hb⟩; (first | refine ⟨_, rfl, ?_⟩ | skip); replace HB := bA (bS hb); (try clear hb)) | ((first | ((with_reducible refine gate_callee (f := 54) rfl ?_); refine bC (some 13) Try.func54 #[.agg #[.int .i64 t211, .int .u64 t212], .bool t213] ?_) | go_at_call 54); (with_reducible refine (fix_told.calls t211 t212 t213 t214 t215 _ A6.out).mono ?_); rintro e w10 ⟨rfl, hb⟩; (first | refine ⟨_, rfl, ?_⟩ | skip); replace HB := bA (bS hb); (try clear hb)))
 go_ret2
 exact bF
end Go.Proofs.Ytfeekdoakoabeaa.G
