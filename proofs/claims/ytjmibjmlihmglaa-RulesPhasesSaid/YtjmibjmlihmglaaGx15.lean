-- Written by a program of this session out of the translation; Lean checks it.
import Derived.Test.YtjmibjmlihmglaaGx0
import Derived.Test.YtjmibjmlihmglaaGx12
import Derived.Test.YtjmibjmlihmglaaGx14
namespace Go.Proofs.Ytjmibjmlihmglaa.G
open Go.RowKit Go.Proofs.YtjmibjmlihmglaaW.PrintWords Go.Proofs.YtjmibjmlihmglaaW.PrintLast Go.Proofs.YtjmibjmlihmglaaW.PrintMore
attribute [local go_sem] max2_int min2_int max_two min_two max_three min_three max_four min_four   -- for this text's walks alone
set_option linter.unusedVariables false
set_option linter.unusedSimpArgs false

/-! ### apogeeref10_Turn: function 75 -/
mutual
def apogeeref10_Turn.j0 : Nat → Bool → Int → Int → Int → Int → Int → Int → Option (Int)
 | 0, _, _, _, _, _, _, _ => none
 | k + 1, x23, x407000, x407001, x408000, x408001, x409000, x409001 => if x23 = true then (some 0) else ((apogeeref10_short.f (wrap64 (x408000 - x407000))).bind fun t412 => (if t412 = true then ((apogeeref10_short.f (wrap64 (x409001 - x407001))).bind fun t413 => (if t413 = true then ((apogeeref10_short.f (wrap64 (x408001 - x407001))).bind fun t414 => (if t414 = true then ((apogeeref10_short.f (wrap64 (x409000 - x407000))).bind fun t415 => (apogeeref10_Turn.j1 k (wrap64 (x408000 - x407000)) (wrap64 (x409001 - x407001)) (wrap64 (x408001 - x407001)) (wrap64 (x409000 - x407000)) t415)) else (apogeeref10_Turn.j1 k (wrap64 (x408000 - x407000)) (wrap64 (x409001 - x407001)) (wrap64 (x408001 - x407001)) (wrap64 (x409000 - x407000)) false))) else (apogeeref10_Turn.j1 k (wrap64 (x408000 - x407000)) (wrap64 (x409001 - x407001)) (wrap64 (x408001 - x407001)) (wrap64 (x409000 - x407000)) false))) else (apogeeref10_Turn.j1 k (wrap64 (x408000 - x407000)) (wrap64 (x409001 - x407001)) (wrap64 (x408001 - x407001)) (wrap64 (x409000 - x407000)) false)))
def apogeeref10_Turn.j1 : Nat → Int → Int → Int → Int → Bool → Option (Int)
 | 0, _, _, _, _, _ => none
 | k + 1, x7, x8, x9, x10, x57 => if x57 = true then (if (wrap64 (x7 * x8)) < (wrap64 (x9 * x10)) then (some (-1)) else (if (wrap64 (x7 * x8)) > (wrap64 (x9 * x10)) then (some 1) else (some 0))) else ((apogeeref01_Mul.f k x7 x8).bind fun bt416 => ((apogeeref01_Mul.f k x9 x10).bind fun bt418 => ((apogeeref01_Cmp.f k bt416.1 bt416.2 bt418.1 bt418.2).bind fun t420 => (some t420))))
end
def apogeeref10_Turn.f (k : Nat) (a0_0 : Int) (a0_1 : Int) (a1_0 : Int) (a1_1 : Int) (a2_0 : Int) (a2_1 : Int) : Option (Int) := (apogeeref10_Right.f a0_0 a0_1).bind fun t409 => (if t409 = true then ((apogeeref10_Right.f a1_0 a1_1).bind fun t410 => (if t410 = true then ((apogeeref10_Right.f a2_0 a2_1).bind fun t411 => (apogeeref10_Turn.j0 k (!t411) a0_0 a0_1 a1_0 a1_1 a2_0 a2_1)) else (apogeeref10_Turn.j0 k true a0_0 a0_1 a1_0 a1_1 a2_0 a2_1))) else (apogeeref10_Turn.j0 k true a0_0 a0_1 a1_0 a1_1 a2_0 a2_1))
theorem apogeeref10_Turn.mono_l : ∀ k, (∀ y0 y1 y2 y3 y4 y5 y6, LeO (apogeeref10_Turn.j0 k y0 y1 y2 y3 y4 y5 y6) (apogeeref10_Turn.j0 (k + 1) y0 y1 y2 y3 y4 y5 y6)) ∧ (∀ y0 y1 y2 y3 y4, LeO (apogeeref10_Turn.j1 k y0 y1 y2 y3 y4) (apogeeref10_Turn.j1 (k + 1) y0 y1 y2 y3 y4))
 | 0 => ⟨fun _ _ _ _ _ _ _ r h => by simp [apogeeref10_Turn.j0] at h, fun _ _ _ _ _ r h => by simp [apogeeref10_Turn.j1] at h⟩
 | k + 1 => by
  obtain ⟨ih0, ih1⟩ := apogeeref10_Turn.mono_l k
  refine ⟨?_, ?_⟩
  ·intro y0 y1 y2 y3 y4 y5 y6
   unfold apogeeref10_Turn.j0
   have m0_ := @apogeeref01_Cmp.mono
   have m1_ := @apogeeref01_Mul.mono
   exact bMo
  ·intro y0 y1 y2 y3 y4
   unfold apogeeref10_Turn.j1
   have m0_ := @apogeeref01_Cmp.mono
   have m1_ := @apogeeref01_Mul.mono
   exact bMo
theorem apogeeref10_Turn.mono : ∀ a0 a1 a2 a3 a4 a5 k, LeO (apogeeref10_Turn.f k a0 a1 a2 a3 a4 a5) (apogeeref10_Turn.f (k + 1) a0 a1 a2 a3 a4 a5) := by
 intro a0 a1 a2 a3 a4 a5 k
 obtain ⟨ih0, ih1⟩ := apogeeref10_Turn.mono_l k
 unfold apogeeref10_Turn.f
 have m0_ := @apogeeref01_Cmp.mono
 have m1_ := @apogeeref01_Mul.mono
 exact bMo
set_option maxHeartbeats 8000000 in
set_option maxRecDepth 100000 in
theorem apogeeref10_Turn.calls (k : Nat) (a0_0 : Int) (a0_1 : Int) (a1_0 : Int) (a1_1 : Int) (a2_0 : Int) (a2_1 : Int) (r : Int) (w : World) (h : apogeeref10_Turn.f k a0_0 a0_1 a1_0 a1_1 a2_0 a2_1 = some r) :
  Calls Try.prog 75 #[.agg #[.int .i64 a0_0, .int .i64 a0_1], .agg #[.int .i64 a1_0, .int .i64 a1_1], .agg #[.int .i64 a2_0, .int .i64 a2_1]] w fun e w' => e = .returned (.int .i64 r) ∧ Below w.heap.size w w' := by
 have hu41 := Try.underlying41
 have HB := bA (Below.refl w.heap.size w)
 have H : ((apogeeref10_Right.f a0_0 a0_1).bind fun t409 => (if t409 = true then ((apogeeref10_Right.f a1_0 a1_1).bind fun t410 => (if t410 = true then ((apogeeref10_Right.f a2_0 a2_1).bind fun t411 => (apogeeref10_Turn.j0 k (!t411) a0_0 a0_1 a1_0 a1_1 a2_0 a2_1)) else (apogeeref10_Turn.j0 k true a0_0 a0_1 a1_0 a1_1 a2_0 a2_1))) else (apogeeref10_Turn.j0 k true a0_0 a0_1 a1_0 a1_1 a2_0 a2_1))) = some r := h
 clear h
 have HC4 := bA H
 clear H
 go_enter Try.func75, Try.ntmps75
 go_upto_region 1 with (first | ((with_reducible refine gate_dst (N := 3) rfl ?_); refine bE (N := 3) (cs := #[.int .i64 a0_0, .int .i64 a0_1]) (t := 41) ?_; intro gb406 hg w5 hbox hb; have n0_ := bA (bS hb); have n1_ := bA (hbox); have n2_ := bA (bZ hg); have n3_ := bA (bZ hg); clear HB; have HB := n0_; have BK406 := n1_; have GW406 := n2_; have GE406 := n3_; clear n0_ n1_ n2_ n3_; clear hb hbox hg) | ((with_reducible refine gate_dst (N := 4) rfl ?_); refine bE (N := 4) (cs := #[.int .i64 a1_0, .int .i64 a1_1]) (t := 41) ?_; intro gb407 hg w6 hbox hb; have n0_ := bA (bB BK406 hb); have n1_ := bA (bS hb); have n2_ := bA (hbox); have n3_ := bA (bZ hg); have n4_ := bA (bZ hg); have n5_ := bA (bL BK406 hg); have n6_ := bA (bG BK406 hg); clear BK406; clear HB; have BK406 := n0_; have HB := n1_; have BK407 := n2_; have GW407 := n3_; have GE407 := n4_; have NB406_407 := n5_; have NB407_406 := n6_; clear n0_ n1_ n2_ n3_ n4_ n5_ n6_; clear hb hbox hg) | ((with_reducible refine gate_dst (N := 5) rfl ?_); refine bE (N := 5) (cs := #[.int .i64 a2_0, .int .i64 a2_1]) (t := 41) ?_; intro gb408 hg w7 hbox hb; have n0_ := bA (bB BK406 hb); have n1_ := bA (bB BK407 hb); have n2_ := bA (bS hb); have n3_ := bA (hbox); have n4_ := bA (bZ hg); have n5_ := bA (bZ hg); have n6_ := bA (bL BK406 hg); have n7_ := bA (bG BK406 hg); have n8_ := bA (bL BK407 hg); have n9_ := bA (bG BK407 hg); clear BK406; clear BK407; clear HB; have BK406 := n0_; have BK407 := n1_; have HB := n2_; have BK408 := n3_; have GW408 := n4_; have GE408 := n5_; have NB406_408 := n6_; have NB408_406 := n7_; have NB407_408 := n8_; have NB408_407 := n9_; clear n0_ n1_ n2_ n3_ n4_ n5_ n6_ n7_ n8_ n9_; clear hb hbox hg))
 repeat (go_quiet (first | ((with_reducible refine gate_dst (N := 3) rfl ?_); refine bE (N := 3) (cs := #[.int .i64 a0_0, .int .i64 a0_1]) (t := 41) ?_; intro gb406 hg w5 hbox hb; have n0_ := bA (bS hb); have n1_ := bA (hbox); have n2_ := bA (bZ hg); have n3_ := bA (bZ hg); clear HB; have HB := n0_; have BK406 := n1_; have GW406 := n2_; have GE406 := n3_; clear n0_ n1_ n2_ n3_; clear hb hbox hg) | ((with_reducible refine gate_dst (N := 4) rfl ?_); refine bE (N := 4) (cs := #[.int .i64 a1_0, .int .i64 a1_1]) (t := 41) ?_; intro gb407 hg w6 hbox hb; have n0_ := bA (bB BK406 hb); have n1_ := bA (bS hb); have n2_ := bA (hbox); have n3_ := bA (bZ hg); have n4_ := bA (bZ hg); have n5_ := bA (bL BK406 hg); have n6_ := bA (bG BK406 hg); clear BK406; clear HB; have BK406 := n0_; have HB := n1_; have BK407 := n2_; have GW407 := n3_; have GE407 := n4_; have NB406_407 := n5_; have NB407_406 := n6_; clear n0_ n1_ n2_ n3_ n4_ n5_ n6_; clear hb hbox hg) | ((with_reducible refine gate_dst (N := 5) rfl ?_); refine bE (N := 5) (cs := #[.int .i64 a2_0, .int .i64 a2_1]) (t := 41) ?_; intro gb408 hg w7 hbox hb; have n0_ := bA (bB BK406 hb); have n1_ := bA (bB BK407 hb); have n2_ := bA (bS hb); have n3_ := bA (hbox); have n4_ := bA (bZ hg); have n5_ := bA (bZ hg); have n6_ := bA (bL BK406 hg); have n7_ := bA (bG BK406 hg); have n8_ := bA (bL BK407 hg); have n9_ := bA (bG BK407 hg); clear BK406; clear BK407; clear HB; have BK406 := n0_; have BK407 := n1_; have HB := n2_; have BK408 := n3_; have GW408 := n4_; have GE408 := n5_; have NB406_408 := n6_; have NB408_406 := n7_; have NB407_408 := n8_; have NB408_407 := n9_; clear n0_ n1_ n2_ n3_ n4_ n5_ n6_ n7_ n8_ n9_; clear hb hbox hg)); go_upto_region 1 with (first | ((with_reducible refine gate_dst (N := 3) rfl ?_); refine bE (N := 3) (cs := #[.int .i64 a0_0, .int .i64 a0_1]) (t := 41) ?_; intro gb406 hg w5 hbox hb; have n0_ := bA (bS hb); have n1_ := bA (hbox); have n2_ := bA (bZ hg); have n3_ := bA (bZ hg); clear HB; have HB := n0_; have BK406 := n1_; have GW406 := n2_; have GE406 := n3_; clear n0_ n1_ n2_ n3_; clear hb hbox hg) | ((with_reducible refine gate_dst (N := 4) rfl ?_); refine bE (N := 4) (cs := #[.int .i64 a1_0, .int .i64 a1_1]) (t := 41) ?_; intro gb407 hg w6 hbox hb; have n0_ := bA (bB BK406 hb); have n1_ := bA (bS hb); have n2_ := bA (hbox); have n3_ := bA (bZ hg); have n4_ := bA (bZ hg); have n5_ := bA (bL BK406 hg); have n6_ := bA (bG BK406 hg); clear BK406; clear HB; have BK406 := n0_; have HB := n1_; have BK407 := n2_; have GW407 := n3_; have GE407 := n4_; have NB406_407 := n5_; have NB407_406 := n6_; clear n0_ n1_ n2_ n3_ n4_ n5_ n6_; clear hb hbox hg) | ((with_reducible refine gate_dst (N := 5) rfl ?_); refine bE (N := 5) (cs := #[.int .i64 a2_0, .int .i64 a2_1]) (t := 41) ?_; intro gb408 hg w7 hbox hb; have n0_ := bA (bB BK406 hb); have n1_ := bA (bB BK407 hb); have n2_ := bA (bS hb); have n3_ := bA (hbox); have n4_ := bA (bZ hg); have n5_ := bA (bZ hg); have n6_ := bA (bL BK406 hg); have n7_ := bA (bG BK406 hg); have n8_ := bA (bL BK407 hg); have n9_ := bA (bG BK407 hg); clear BK406; clear BK407; clear HB; have BK406 := n0_; have BK407 := n1_; have HB := n2_; have BK408 := n3_; have GW408 := n4_; have GE408 := n5_; have NB406_408 := n6_; have NB408_406 := n7_; have NB407_408 := n8_; have NB408_407 := n9_; clear n0_ n1_ n2_ n3_ n4_ n5_ n6_ n7_ n8_ n9_; clear hb hbox hg)))
 (try simp only [Act.put, List.setIfInBounds_toArray, List.set_cons_zero, List.set_cons_succ])
 go_cut [23] (fun v23 wc => ∃ (kq : Nat) (x23_3 : Bool), v23 = .bool x23_3 ∧ Aside0 (apogeeref10_Turn.j0 kq x23_3 a0_0 a0_1 a1_0 a1_1 a2_0 a2_1 = some r) ∧ Aside0 (kq ≤ k) ∧ Aside0 (wc.heap[gb406]? = some (.cells #[.int .i64 a0_0, .int .i64 a0_1] 41 (0, 0))) ∧ Aside0 (wc.heap[gb407]? = some (.cells #[.int .i64 a1_0, .int .i64 a1_1] 41 (0, 0))) ∧ Aside0 (wc.heap[gb408]? = some (.cells #[.int .i64 a2_0, .int .i64 a2_1] 41 (0, 0))) ∧ Aside0 (Below w.heap.size w wc))
 case first =>
  have H := HC4.out
  clear HC4
  replace H := Option.bind_eq_some_iff.mp H
  obtain ⟨t409, A80, H⟩ := H
  have A8 := bA A80
  clear A80
  by_cases c9 : t409 = true
  rotate_left
  ·replace c9 := Bool.eq_false_iff.mpr c9
   subst c9
   rw [if_neg bn] at H
   have H' := bA H
   clear H
   have hnb29 := NB406_407.out
   have hnc29 := NB407_406.out
   have hnb30 := NB406_408.out
   have hnc30 := NB408_406.out
   obtain ⟨hcz31_0, hcz31_1, hfz31_0, hfz31_1⟩ := bc2 BK406
   go_wp2_with (first | (go_at_call 40; (with_reducible refine (apogeeref10_Right.calls a0_0 a0_1 false _ A8.out).mono ?_); rintro e w32 ⟨rfl, hb⟩; replace BK406 := bA (bB BK406 hb); replace BK407 := bA (bB BK407 hb); replace BK408 := bA (bB BK408 hb); replace HB := bA (bS hb); (try clear hb)))
   repeat (go_quiet (first | (go_at_call 40; (with_reducible refine (apogeeref10_Right.calls a0_0 a0_1 false _ A8.out).mono ?_); rintro e w32 ⟨rfl, hb⟩; have n0_ := bA (bB BK406 hb); have n1_ := bA (bB BK407 hb); have n2_ := bA (bB BK408 hb); have n3_ := bA (bS hb); clear BK406; clear BK407; clear BK408; clear HB; have BK406 := n0_; have BK407 := n1_; have BK408 := n2_; have HB := n3_; clear n0_ n1_ n2_ n3_; (try clear hb))); try go_wp2_with (first | (go_at_call 40; (with_reducible refine (apogeeref10_Right.calls a0_0 a0_1 false _ A8.out).mono ?_); rintro e w32 ⟨rfl, hb⟩; replace BK406 := bA (bB BK406 hb); replace BK407 := bA (bB BK407 hb); replace BK408 := bA (bB BK408 hb); replace HB := bA (bS hb); (try clear hb))))
   go_meet
   case rel => exact ⟨_, (true), bs, H', ⟨by first | omega | exact Nat.le_refl _⟩, ⟨by (with_reducible repeat (first | refine blk_drewN ?_ _ | refine blk_drew ?_ | refine blk_alloc ?_ _)); exact BK406.out⟩, ⟨by (with_reducible repeat (first | refine blk_drewN ?_ _ | refine blk_drew ?_ | refine blk_alloc ?_ _)); exact BK407.out⟩, ⟨by (with_reducible repeat (first | refine blk_drewN ?_ _ | refine blk_drew ?_ | refine blk_alloc ?_ _)); exact BK408.out⟩, ⟨bX⟩⟩
  subst c9
  rw [if_pos rfl] at H
  replace H := Option.bind_eq_some_iff.mp H
  obtain ⟨t410, A100, H⟩ := H
  have A10 := bA A100
  clear A100
  by_cases c11 : t410 = true
  ·subst c11
   rw [if_pos rfl] at H
   replace H := Option.bind_eq_some_iff.mp H
   obtain ⟨t411, A120, H⟩ := H
   have A12 := bA A120
   clear A120
   have H' := bA H
   clear H
   have hnb13 := NB406_407.out
   have hnc13 := NB407_406.out
   have hnb14 := NB406_408.out
   have hnc14 := NB408_406.out
   obtain ⟨hcz15_0, hcz15_1, hfz15_0, hfz15_1⟩ := bc2 BK406
   go_wp2_with (first | (go_at_call 40; (with_reducible refine (apogeeref10_Right.calls a0_0 a0_1 true _ A8.out).mono ?_); rintro e w16 ⟨rfl, hb⟩; replace BK406 := bA (bB BK406 hb); replace BK407 := bA (bB BK407 hb); replace BK408 := bA (bB BK408 hb); replace HB := bA (bS hb); (try clear hb); have hnb17 := NB407_408.out; have hnc17 := NB408_407.out; obtain ⟨hcz18_0, hcz18_1, hfz18_0, hfz18_1⟩ := bc2 BK407) | (go_at_call 40; (with_reducible refine (apogeeref10_Right.calls a1_0 a1_1 true _ A10.out).mono ?_); rintro e w19 ⟨rfl, hb⟩; replace BK406 := bA (bB BK406 hb); replace BK407 := bA (bB BK407 hb); replace BK408 := bA (bB BK408 hb); replace HB := bA (bS hb); (try clear hb); obtain ⟨hcz20_0, hcz20_1, hfz20_0, hfz20_1⟩ := bc2 BK408) | (go_at_call 40; (with_reducible refine (apogeeref10_Right.calls a2_0 a2_1 t411 _ A12.out).mono ?_); rintro e w21 ⟨rfl, hb⟩; replace BK406 := bA (bB BK406 hb); replace BK407 := bA (bB BK407 hb); replace BK408 := bA (bB BK408 hb); replace HB := bA (bS hb); (try clear hb)))
   repeat (go_quiet (first | (go_at_call 40; (with_reducible refine (apogeeref10_Right.calls a0_0 a0_1 true _ A8.out).mono ?_); rintro e w16 ⟨rfl, hb⟩; have n0_ := bA (bB BK406 hb); have n1_ := bA (bB BK407 hb); have n2_ := bA (bB BK408 hb); have n3_ := bA (bS hb); clear BK406; clear BK407; clear BK408; clear HB; have BK406 := n0_; have BK407 := n1_; have BK408 := n2_; have HB := n3_; clear n0_ n1_ n2_ n3_; (try clear hb); have hnb17 := NB407_408.out; have hnc17 := NB408_407.out; obtain ⟨hcz18_0, hcz18_1, hfz18_0, hfz18_1⟩ := bc2 BK407) | (go_at_call 40; (with_reducible refine (apogeeref10_Right.calls a1_0 a1_1 true _ A10.out).mono ?_); rintro e w19 ⟨rfl, hb⟩; have n0_ := bA (bB BK406 hb); have n1_ := bA (bB BK407 hb); have n2_ := bA (bB BK408 hb); have n3_ := bA (bS hb); clear BK406; clear BK407; clear BK408; clear HB; have BK406 := n0_; have BK407 := n1_; have BK408 := n2_; have HB := n3_; clear n0_ n1_ n2_ n3_; (try clear hb); obtain ⟨hcz20_0, hcz20_1, hfz20_0, hfz20_1⟩ := bc2 BK408) | (go_at_call 40; (with_reducible refine (apogeeref10_Right.calls a2_0 a2_1 t411 _ A12.out).mono ?_); rintro e w21 ⟨rfl, hb⟩; have n0_ := bA (bB BK406 hb); have n1_ := bA (bB BK407 hb); have n2_ := bA (bB BK408 hb); have n3_ := bA (bS hb); clear BK406; clear BK407; clear BK408; clear HB; have BK406 := n0_; have BK407 := n1_; have BK408 := n2_; have HB := n3_; clear n0_ n1_ n2_ n3_; (try clear hb))); try go_wp2_with (first | (go_at_call 40; (with_reducible refine (apogeeref10_Right.calls a0_0 a0_1 true _ A8.out).mono ?_); rintro e w16 ⟨rfl, hb⟩; replace BK406 := bA (bB BK406 hb); replace BK407 := bA (bB BK407 hb); replace BK408 := bA (bB BK408 hb); replace HB := bA (bS hb); (try clear hb); have hnb17 := NB407_408.out; have hnc17 := NB408_407.out; obtain ⟨hcz18_0, hcz18_1, hfz18_0, hfz18_1⟩ := bc2 BK407) | (go_at_call 40; (with_reducible refine (apogeeref10_Right.calls a1_0 a1_1 true _ A10.out).mono ?_); rintro e w19 ⟨rfl, hb⟩; replace BK406 := bA (bB BK406 hb); replace BK407 := bA (bB BK407 hb); replace BK408 := bA (bB BK408 hb); replace HB := bA (bS hb); (try clear hb); obtain ⟨hcz20_0, hcz20_1, hfz20_0, hfz20_1⟩ := bc2 BK408) | (go_at_call 40; (with_reducible refine (apogeeref10_Right.calls a2_0 a2_1 t411 _ A12.out).mono ?_); rintro e w21 ⟨rfl, hb⟩; replace BK406 := bA (bB BK406 hb); replace BK407 := bA (bB BK407 hb); replace BK408 := bA (bB BK408 hb); replace HB := bA (bS hb); (try clear hb))))
   go_meet
   case rel => exact ⟨_, (!t411), bs, H', ⟨by first | omega | exact Nat.le_refl _⟩, ⟨by (with_reducible repeat (first | refine blk_drewN ?_ _ | refine blk_drew ?_ | refine blk_alloc ?_ _)); exact BK406.out⟩, ⟨by (with_reducible repeat (first | refine blk_drewN ?_ _ | refine blk_drew ?_ | refine blk_alloc ?_ _)); exact BK407.out⟩, ⟨by (with_reducible repeat (first | refine blk_drewN ?_ _ | refine blk_drew ?_ | refine blk_alloc ?_ _)); exact BK408.out⟩, ⟨bX⟩⟩
  replace c11 := Bool.eq_false_iff.mpr c11
  subst c11
  rw [if_neg bn] at H
  have H' := bA H
  clear H
  have hnb22 := NB406_407.out
  have hnc22 := NB407_406.out
  have hnb23 := NB406_408.out
  have hnc23 := NB408_406.out
  obtain ⟨hcz24_0, hcz24_1, hfz24_0, hfz24_1⟩ := bc2 BK406
  go_wp2_with (first | (go_at_call 40; (with_reducible refine (apogeeref10_Right.calls a0_0 a0_1 true _ A8.out).mono ?_); rintro e w25 ⟨rfl, hb⟩; replace BK406 := bA (bB BK406 hb); replace BK407 := bA (bB BK407 hb); replace BK408 := bA (bB BK408 hb); replace HB := bA (bS hb); (try clear hb); have hnb26 := NB407_408.out; have hnc26 := NB408_407.out; obtain ⟨hcz27_0, hcz27_1, hfz27_0, hfz27_1⟩ := bc2 BK407) | (go_at_call 40; (with_reducible refine (apogeeref10_Right.calls a1_0 a1_1 false _ A10.out).mono ?_); rintro e w28 ⟨rfl, hb⟩; replace BK406 := bA (bB BK406 hb); replace BK407 := bA (bB BK407 hb); replace BK408 := bA (bB BK408 hb); replace HB := bA (bS hb); (try clear hb)))
  repeat (go_quiet (first | (go_at_call 40; (with_reducible refine (apogeeref10_Right.calls a0_0 a0_1 true _ A8.out).mono ?_); rintro e w25 ⟨rfl, hb⟩; have n0_ := bA (bB BK406 hb); have n1_ := bA (bB BK407 hb); have n2_ := bA (bB BK408 hb); have n3_ := bA (bS hb); clear BK406; clear BK407; clear BK408; clear HB; have BK406 := n0_; have BK407 := n1_; have BK408 := n2_; have HB := n3_; clear n0_ n1_ n2_ n3_; (try clear hb); have hnb26 := NB407_408.out; have hnc26 := NB408_407.out; obtain ⟨hcz27_0, hcz27_1, hfz27_0, hfz27_1⟩ := bc2 BK407) | (go_at_call 40; (with_reducible refine (apogeeref10_Right.calls a1_0 a1_1 false _ A10.out).mono ?_); rintro e w28 ⟨rfl, hb⟩; have n0_ := bA (bB BK406 hb); have n1_ := bA (bB BK407 hb); have n2_ := bA (bB BK408 hb); have n3_ := bA (bS hb); clear BK406; clear BK407; clear BK408; clear HB; have BK406 := n0_; have BK407 := n1_; have BK408 := n2_; have HB := n3_; clear n0_ n1_ n2_ n3_; (try clear hb))); try go_wp2_with (first | (go_at_call 40; (with_reducible refine (apogeeref10_Right.calls a0_0 a0_1 true _ A8.out).mono ?_); rintro e w25 ⟨rfl, hb⟩; replace BK406 := bA (bB BK406 hb); replace BK407 := bA (bB BK407 hb); replace BK408 := bA (bB BK408 hb); replace HB := bA (bS hb); (try clear hb); have hnb26 := NB407_408.out; have hnc26 := NB408_407.out; obtain ⟨hcz27_0, hcz27_1, hfz27_0, hfz27_1⟩ := bc2 BK407) | (go_at_call 40; (with_reducible refine (apogeeref10_Right.calls a1_0 a1_1 false _ A10.out).mono ?_); rintro e w28 ⟨rfl, hb⟩; replace BK406 := bA (bB BK406 hb); replace BK407 := bA (bB BK407 hb); replace BK408 := bA (bB BK408 hb); replace HB := bA (bS hb); (try clear hb))))
  go_meet
  case rel => exact ⟨_, (true), bs, H', ⟨by first | omega | exact Nat.le_refl _⟩, ⟨by (with_reducible repeat (first | refine blk_drewN ?_ _ | refine blk_drew ?_ | refine blk_alloc ?_ _)); exact BK406.out⟩, ⟨by (with_reducible repeat (first | refine blk_drewN ?_ _ | refine blk_drew ?_ | refine blk_alloc ?_ _)); exact BK407.out⟩, ⟨by (with_reducible repeat (first | refine blk_drewN ?_ _ | refine blk_drew ?_ | refine blk_alloc ?_ _)); exact BK408.out⟩, ⟨bX⟩⟩
 clear HC4
 try clear c1
 try clear c2
 try clear p2
 try clear c3
 try clear c7
 try clear c9
 try clear c11
 try clear c13
 try clear c14
 try clear c17
 try clear c22
 try clear c23
 try clear c26
 try clear c29
 try clear c30
 try clear hcz15_0
 try clear hcz15_1
 try clear hcz18_0
 try clear hcz18_1
 try clear hcz20_0
 try clear hcz20_1
 try clear hcz24_0
 try clear hcz24_1
 try clear hcz27_0
 try clear hcz27_1
 try clear hcz31_0
 try clear hcz31_1
 try clear hfz15_0
 try clear hfz15_1
 try clear hfz18_0
 try clear hfz18_1
 try clear hfz20_0
 try clear hfz20_1
 try clear hfz24_0
 try clear hfz24_1
 try clear hfz27_0
 try clear hfz27_1
 try clear hfz31_0
 try clear hfz31_1
 obtain ⟨kq, x23_3, rfl, HA, HJ3, BK406, BK407, BK408, HB⟩ := hcut
 cases kq with
 | zero => exact absurd HA.out (by simp [apogeeref10_Turn.j0])
 | succ kj3 =>
  have H := HA.out
  clear HA
  simp only [apogeeref10_Turn.j0] at H
  by_cases c33 : x23_3 = true
  ·subst c33
   rw [if_pos rfl] at H
   obtain rfl := Option.some.inj H
   go_wp2
   repeat (go_quiet (fail); try go_wp2)
   go_ret
   exact bF
  replace c33 := Bool.eq_false_iff.mpr c33
  subst c33
  rw [if_neg bn] at H
  have HC34 := bA H
  clear H
  have hnb35 := NB407_406.out
  have hnc35 := NB406_407.out
  have hnb36 := NB407_408.out
  have hnc36 := NB408_407.out
  obtain ⟨hcz37_0, hcz37_1, hfz37_0, hfz37_1⟩ := bc2 BK407
  have hnb38 := NB406_408.out
  have hnc38 := NB408_406.out
  obtain ⟨hcz39_0, hcz39_1, hfz39_0, hfz39_1⟩ := bc2 BK406
  obtain ⟨hcz40_0, hcz40_1, hfz40_0, hfz40_1⟩ := bc2 BK408
  go_upto_region 4 with (fail)
  repeat (go_quiet (fail); go_upto_region 4 with (fail))
  go_cut [57] (fun v57 wc => ∃ (kq : Nat) (x57_33 : Bool), v57 = .bool x57_33 ∧ Aside0 (apogeeref10_Turn.j1 kq (wrap64 (a1_0 - a0_0)) (wrap64 (a2_1 - a0_1)) (wrap64 (a1_1 - a0_1)) (wrap64 (a2_0 - a0_0)) x57_33 = some r) ∧ Aside0 (kq ≤ kj3) ∧ Aside0 (wc.heap[gb406]? = some (.cells #[.int .i64 a0_0, .int .i64 a0_1] 41 (0, 0))) ∧ Aside0 (wc.heap[gb407]? = some (.cells #[.int .i64 a1_0, .int .i64 a1_1] 41 (0, 0))) ∧ Aside0 (wc.heap[gb408]? = some (.cells #[.int .i64 a2_0, .int .i64 a2_1] 41 (0, 0))) ∧ Aside0 (Below w.heap.size w wc))
  case first =>
   have H := HC34.out
   clear HC34
   replace H := Option.bind_eq_some_iff.mp H
   obtain ⟨t412, A410, H⟩ := H
   have A41 := bA A410
   clear A410
   by_cases c42 : t412 = true
   rotate_left
   ·replace c42 := Bool.eq_false_iff.mpr c42
    subst c42
    rw [if_neg bn] at H
    have H' := bA H
    clear H
    go_wp2_with (first | (go_at_call 105; (with_reducible refine (apogeeref10_short.calls (wrap64 (a1_0 - a0_0)) false _ A41.out).mono ?_); rintro e w' ⟨rfl, ⟨nd, rfl⟩⟩; (try first | exact ⟨rfl, _, World.drewN_drewN _ _ _⟩ | exact ⟨rfl, _, Eq.trans (World.drewN_drewN _ _ _) (congrArg (World.drewN _) (Nat.add_assoc _ _ _))⟩)))
    repeat (go_quiet (first | (go_at_call 105; (with_reducible refine (apogeeref10_short.calls (wrap64 (a1_0 - a0_0)) false _ A41.out).mono ?_); rintro e w' ⟨rfl, ⟨nd, rfl⟩⟩; (try first | exact ⟨rfl, _, World.drewN_drewN _ _ _⟩ | exact ⟨rfl, _, Eq.trans (World.drewN_drewN _ _ _) (congrArg (World.drewN _) (Nat.add_assoc _ _ _))⟩))); try go_wp2_with (first | (go_at_call 105; (with_reducible refine (apogeeref10_short.calls (wrap64 (a1_0 - a0_0)) false _ A41.out).mono ?_); rintro e w' ⟨rfl, ⟨nd, rfl⟩⟩; (try first | exact ⟨rfl, _, World.drewN_drewN _ _ _⟩ | exact ⟨rfl, _, Eq.trans (World.drewN_drewN _ _ _) (congrArg (World.drewN _) (Nat.add_assoc _ _ _))⟩))))
    go_meet
    case rel => exact ⟨_, (false), bs, H', ⟨by have := HJ3.out; first | omega | exact Nat.le_refl _⟩, ⟨by (with_reducible repeat (first | refine blk_drewN ?_ _ | refine blk_drew ?_ | refine blk_alloc ?_ _)); exact BK406.out⟩, ⟨by (with_reducible repeat (first | refine blk_drewN ?_ _ | refine blk_drew ?_ | refine blk_alloc ?_ _)); exact BK407.out⟩, ⟨by (with_reducible repeat (first | refine blk_drewN ?_ _ | refine blk_drew ?_ | refine blk_alloc ?_ _)); exact BK408.out⟩, ⟨bX⟩⟩
   subst c42
   rw [if_pos rfl] at H
   replace H := Option.bind_eq_some_iff.mp H
   obtain ⟨t413, A430, H⟩ := H
   have A43 := bA A430
   clear A430
   by_cases c44 : t413 = true
   rotate_left
   ·replace c44 := Bool.eq_false_iff.mpr c44
    subst c44
    rw [if_neg bn] at H
    have H' := bA H
    clear H
    go_wp2_with (first | (go_at_call 105; (with_reducible refine (apogeeref10_short.calls (wrap64 (a1_0 - a0_0)) true _ A41.out).mono ?_); rintro e w' ⟨rfl, ⟨nd, rfl⟩⟩; (try first | exact ⟨rfl, _, World.drewN_drewN _ _ _⟩ | exact ⟨rfl, _, Eq.trans (World.drewN_drewN _ _ _) (congrArg (World.drewN _) (Nat.add_assoc _ _ _))⟩)) | (go_at_call 105; (with_reducible refine (apogeeref10_short.calls (wrap64 (a2_1 - a0_1)) false _ A43.out).mono ?_); rintro e w' ⟨rfl, ⟨nd, rfl⟩⟩; (try first | exact ⟨rfl, _, World.drewN_drewN _ _ _⟩ | exact ⟨rfl, _, Eq.trans (World.drewN_drewN _ _ _) (congrArg (World.drewN _) (Nat.add_assoc _ _ _))⟩)))
    repeat (go_quiet (first | (go_at_call 105; (with_reducible refine (apogeeref10_short.calls (wrap64 (a1_0 - a0_0)) true _ A41.out).mono ?_); rintro e w' ⟨rfl, ⟨nd, rfl⟩⟩; (try first | exact ⟨rfl, _, World.drewN_drewN _ _ _⟩ | exact ⟨rfl, _, Eq.trans (World.drewN_drewN _ _ _) (congrArg (World.drewN _) (Nat.add_assoc _ _ _))⟩)) | (go_at_call 105; (with_reducible refine (apogeeref10_short.calls (wrap64 (a2_1 - a0_1)) false _ A43.out).mono ?_); rintro e w' ⟨rfl, ⟨nd, rfl⟩⟩; (try first | exact ⟨rfl, _, World.drewN_drewN _ _ _⟩ | exact ⟨rfl, _, Eq.trans (World.drewN_drewN _ _ _) (congrArg (World.drewN _) (Nat.add_assoc _ _ _))⟩))); try go_wp2_with (first | (go_at_call 105; (with_reducible refine (apogeeref10_short.calls (wrap64 (a1_0 - a0_0)) true _ A41.out).mono ?_); rintro e w' ⟨rfl, ⟨nd, rfl⟩⟩; (try first | exact ⟨rfl, _, World.drewN_drewN _ _ _⟩ | exact ⟨rfl, _, Eq.trans (World.drewN_drewN _ _ _) (congrArg (World.drewN _) (Nat.add_assoc _ _ _))⟩)) | (go_at_call 105; (with_reducible refine (apogeeref10_short.calls (wrap64 (a2_1 - a0_1)) false _ A43.out).mono ?_); rintro e w' ⟨rfl, ⟨nd, rfl⟩⟩; (try first | exact ⟨rfl, _, World.drewN_drewN _ _ _⟩ | exact ⟨rfl, _, Eq.trans (World.drewN_drewN _ _ _) (congrArg (World.drewN _) (Nat.add_assoc _ _ _))⟩))))
    go_meet
    case rel => exact ⟨_, (false), bs, H', ⟨by have := HJ3.out; first | omega | exact Nat.le_refl _⟩, ⟨by (with_reducible repeat (first | refine blk_drewN ?_ _ | refine blk_drew ?_ | refine blk_alloc ?_ _)); exact BK406.out⟩, ⟨by (with_reducible repeat (first | refine blk_drewN ?_ _ | refine blk_drew ?_ | refine blk_alloc ?_ _)); exact BK407.out⟩, ⟨by (with_reducible repeat (first | refine blk_drewN ?_ _ | refine blk_drew ?_ | refine blk_alloc ?_ _)); exact BK408.out⟩, ⟨bX⟩⟩
   subst c44
   rw [if_pos rfl] at H
   replace H := Option.bind_eq_some_iff.mp H
   obtain ⟨t414, A450, H⟩ := H
   have A45 := bA A450
   clear A450
   by_cases c46 : t414 = true
   ·subst c46
    rw [if_pos rfl] at H
    replace H := Option.bind_eq_some_iff.mp H
    obtain ⟨t415, A470, H⟩ := H
    have A47 := bA A470
    clear A470
    have H' := bA H
    clear H
    go_wp2_with (first | (go_at_call 105; (with_reducible refine (apogeeref10_short.calls (wrap64 (a1_0 - a0_0)) true _ A41.out).mono ?_); rintro e w' ⟨rfl, ⟨nd, rfl⟩⟩; (try first | exact ⟨rfl, _, World.drewN_drewN _ _ _⟩ | exact ⟨rfl, _, Eq.trans (World.drewN_drewN _ _ _) (congrArg (World.drewN _) (Nat.add_assoc _ _ _))⟩)) | (go_at_call 105; (with_reducible refine (apogeeref10_short.calls (wrap64 (a2_1 - a0_1)) true _ A43.out).mono ?_); rintro e w' ⟨rfl, ⟨nd, rfl⟩⟩; (try first | exact ⟨rfl, _, World.drewN_drewN _ _ _⟩ | exact ⟨rfl, _, Eq.trans (World.drewN_drewN _ _ _) (congrArg (World.drewN _) (Nat.add_assoc _ _ _))⟩)) | (go_at_call 105; (with_reducible refine (apogeeref10_short.calls (wrap64 (a1_1 - a0_1)) true _ A45.out).mono ?_); rintro e w' ⟨rfl, ⟨nd, rfl⟩⟩; (try first | exact ⟨rfl, _, World.drewN_drewN _ _ _⟩ | exact ⟨rfl, _, Eq.trans (World.drewN_drewN _ _ _) (congrArg (World.drewN _) (Nat.add_assoc _ _ _))⟩)) | (go_at_call 105; (with_reducible refine (apogeeref10_short.calls (wrap64 (a2_0 - a0_0)) t415 _ A47.out).mono ?_); rintro e w' ⟨rfl, ⟨nd, rfl⟩⟩; (try first | exact ⟨rfl, _, World.drewN_drewN _ _ _⟩ | exact ⟨rfl, _, Eq.trans (World.drewN_drewN _ _ _) (congrArg (World.drewN _) (Nat.add_assoc _ _ _))⟩)))
    repeat (go_quiet (first | (go_at_call 105; (with_reducible refine (apogeeref10_short.calls (wrap64 (a1_0 - a0_0)) true _ A41.out).mono ?_); rintro e w' ⟨rfl, ⟨nd, rfl⟩⟩; (try first | exact ⟨rfl, _, World.drewN_drewN _ _ _⟩ | exact ⟨rfl, _, Eq.trans (World.drewN_drewN _ _ _) (congrArg (World.drewN _) (Nat.add_assoc _ _ _))⟩)) | (go_at_call 105; (with_reducible refine (apogeeref10_short.calls (wrap64 (a2_1 - a0_1)) true _ A43.out).mono ?_); rintro e w' ⟨rfl, ⟨nd, rfl⟩⟩; (try first | exact ⟨rfl, _, World.drewN_drewN _ _ _⟩ | exact ⟨rfl, _, Eq.trans (World.drewN_drewN _ _ _) (congrArg (World.drewN _) (Nat.add_assoc _ _ _))⟩)) | (go_at_call 105; (with_reducible refine (apogeeref10_short.calls (wrap64 (a1_1 - a0_1)) true _ A45.out).mono ?_); rintro e w' ⟨rfl, ⟨nd, rfl⟩⟩; (try first | exact ⟨rfl, _, World.drewN_drewN _ _ _⟩ | exact ⟨rfl, _, Eq.trans (World.drewN_drewN _ _ _) (congrArg (World.drewN _) (Nat.add_assoc _ _ _))⟩)) | (go_at_call 105; (with_reducible refine (apogeeref10_short.calls (wrap64 (a2_0 - a0_0)) t415 _ A47.out).mono ?_); rintro e w' ⟨rfl, ⟨nd, rfl⟩⟩; (try first | exact ⟨rfl, _, World.drewN_drewN _ _ _⟩ | exact ⟨rfl, _, Eq.trans (World.drewN_drewN _ _ _) (congrArg (World.drewN _) (Nat.add_assoc _ _ _))⟩))); try go_wp2_with (first | (go_at_call 105; (with_reducible refine (apogeeref10_short.calls (wrap64 (a1_0 - a0_0)) true _ A41.out).mono ?_); rintro e w' ⟨rfl, ⟨nd, rfl⟩⟩; (try first | exact ⟨rfl, _, World.drewN_drewN _ _ _⟩ | exact ⟨rfl, _, Eq.trans (World.drewN_drewN _ _ _) (congrArg (World.drewN _) (Nat.add_assoc _ _ _))⟩)) | (go_at_call 105; (with_reducible refine (apogeeref10_short.calls (wrap64 (a2_1 - a0_1)) true _ A43.out).mono ?_); rintro e w' ⟨rfl, ⟨nd, rfl⟩⟩; (try first | exact ⟨rfl, _, World.drewN_drewN _ _ _⟩ | exact ⟨rfl, _, Eq.trans (World.drewN_drewN _ _ _) (congrArg (World.drewN _) (Nat.add_assoc _ _ _))⟩)) | (go_at_call 105; (with_reducible refine (apogeeref10_short.calls (wrap64 (a1_1 - a0_1)) true _ A45.out).mono ?_); rintro e w' ⟨rfl, ⟨nd, rfl⟩⟩; (try first | exact ⟨rfl, _, World.drewN_drewN _ _ _⟩ | exact ⟨rfl, _, Eq.trans (World.drewN_drewN _ _ _) (congrArg (World.drewN _) (Nat.add_assoc _ _ _))⟩)) | (go_at_call 105; (with_reducible refine (apogeeref10_short.calls (wrap64 (a2_0 - a0_0)) t415 _ A47.out).mono ?_); rintro e w' ⟨rfl, ⟨nd, rfl⟩⟩; (try first | exact ⟨rfl, _, World.drewN_drewN _ _ _⟩ | exact ⟨rfl, _, Eq.trans (World.drewN_drewN _ _ _) (congrArg (World.drewN _) (Nat.add_assoc _ _ _))⟩))))
    go_meet
    case rel => exact ⟨_, (t415), bs, H', ⟨by have := HJ3.out; first | omega | exact Nat.le_refl _⟩, ⟨by (with_reducible repeat (first | refine blk_drewN ?_ _ | refine blk_drew ?_ | refine blk_alloc ?_ _)); exact BK406.out⟩, ⟨by (with_reducible repeat (first | refine blk_drewN ?_ _ | refine blk_drew ?_ | refine blk_alloc ?_ _)); exact BK407.out⟩, ⟨by (with_reducible repeat (first | refine blk_drewN ?_ _ | refine blk_drew ?_ | refine blk_alloc ?_ _)); exact BK408.out⟩, ⟨bX⟩⟩
   replace c46 := Bool.eq_false_iff.mpr c46
   subst c46
   rw [if_neg bn] at H
   have H' := bA H
   clear H
   go_wp2_with (first | (go_at_call 105; (with_reducible refine (apogeeref10_short.calls (wrap64 (a1_0 - a0_0)) true _ A41.out).mono ?_); rintro e w' ⟨rfl, ⟨nd, rfl⟩⟩; (try first | exact ⟨rfl, _, World.drewN_drewN _ _ _⟩ | exact ⟨rfl, _, Eq.trans (World.drewN_drewN _ _ _) (congrArg (World.drewN _) (Nat.add_assoc _ _ _))⟩)) | (go_at_call 105; (with_reducible refine (apogeeref10_short.calls (wrap64 (a2_1 - a0_1)) true _ A43.out).mono ?_); rintro e w' ⟨rfl, ⟨nd, rfl⟩⟩; (try first | exact ⟨rfl, _, World.drewN_drewN _ _ _⟩ | exact ⟨rfl, _, Eq.trans (World.drewN_drewN _ _ _) (congrArg (World.drewN _) (Nat.add_assoc _ _ _))⟩)) | (go_at_call 105; (with_reducible refine (apogeeref10_short.calls (wrap64 (a1_1 - a0_1)) false _ A45.out).mono ?_); rintro e w' ⟨rfl, ⟨nd, rfl⟩⟩; (try first | exact ⟨rfl, _, World.drewN_drewN _ _ _⟩ | exact ⟨rfl, _, Eq.trans (World.drewN_drewN _ _ _) (congrArg (World.drewN _) (Nat.add_assoc _ _ _))⟩)))
   repeat (go_quiet (first | (go_at_call 105; (with_reducible refine (apogeeref10_short.calls (wrap64 (a1_0 - a0_0)) true _ A41.out).mono ?_); rintro e w' ⟨rfl, ⟨nd, rfl⟩⟩; (try first | exact ⟨rfl, _, World.drewN_drewN _ _ _⟩ | exact ⟨rfl, _, Eq.trans (World.drewN_drewN _ _ _) (congrArg (World.drewN _) (Nat.add_assoc _ _ _))⟩)) | (go_at_call 105; (with_reducible refine (apogeeref10_short.calls (wrap64 (a2_1 - a0_1)) true _ A43.out).mono ?_); rintro e w' ⟨rfl, ⟨nd, rfl⟩⟩; (try first | exact ⟨rfl, _, World.drewN_drewN _ _ _⟩ | exact ⟨rfl, _, Eq.trans (World.drewN_drewN _ _ _) (congrArg (World.drewN _) (Nat.add_assoc _ _ _))⟩)) | (go_at_call 105; (with_reducible refine (apogeeref10_short.calls (wrap64 (a1_1 - a0_1)) false _ A45.out).mono ?_); rintro e w' ⟨rfl, ⟨nd, rfl⟩⟩; (try first | exact ⟨rfl, _, World.drewN_drewN _ _ _⟩ | exact ⟨rfl, _, Eq.trans (World.drewN_drewN _ _ _) (congrArg (World.drewN _) (Nat.add_assoc _ _ _))⟩))); try go_wp2_with (first | (go_at_call 105; (with_reducible refine (apogeeref10_short.calls (wrap64 (a1_0 - a0_0)) true _ A41.out).mono ?_); rintro e w' ⟨rfl, ⟨nd, rfl⟩⟩; (try first | exact ⟨rfl, _, World.drewN_drewN _ _ _⟩ | exact ⟨rfl, _, Eq.trans (World.drewN_drewN _ _ _) (congrArg (World.drewN _) (Nat.add_assoc _ _ _))⟩)) | (go_at_call 105; (with_reducible refine (apogeeref10_short.calls (wrap64 (a2_1 - a0_1)) true _ A43.out).mono ?_); rintro e w' ⟨rfl, ⟨nd, rfl⟩⟩; (try first | exact ⟨rfl, _, World.drewN_drewN _ _ _⟩ | exact ⟨rfl, _, Eq.trans (World.drewN_drewN _ _ _) (congrArg (World.drewN _) (Nat.add_assoc _ _ _))⟩)) | (go_at_call 105; (with_reducible refine (apogeeref10_short.calls (wrap64 (a1_1 - a0_1)) false _ A45.out).mono ?_); rintro e w' ⟨rfl, ⟨nd, rfl⟩⟩; (try first | exact ⟨rfl, _, World.drewN_drewN _ _ _⟩ | exact ⟨rfl, _, Eq.trans (World.drewN_drewN _ _ _) (congrArg (World.drewN _) (Nat.add_assoc _ _ _))⟩))))
   go_meet
   case rel => exact ⟨_, (false), bs, H', ⟨by have := HJ3.out; first | omega | exact Nat.le_refl _⟩, ⟨by (with_reducible repeat (first | refine blk_drewN ?_ _ | refine blk_drew ?_ | refine blk_alloc ?_ _)); exact BK406.out⟩, ⟨by (with_reducible repeat (first | refine blk_drewN ?_ _ | refine blk_drew ?_ | refine blk_alloc ?_ _)); exact BK407.out⟩, ⟨by (with_reducible repeat (first | refine blk_drewN ?_ _ | refine blk_drew ?_ | refine blk_alloc ?_ _)); exact BK408.out⟩, ⟨bX⟩⟩
  clear HC34
  try clear c1
  try clear c2
  try clear p2
  try clear c3
  try clear c4
  try clear p6
  try clear c7
  try clear c9
  try clear c11
  try clear c13
  try clear c14
  try clear c17
  try clear c22
  try clear c23
  try clear c26
  try clear c29
  try clear c30
  try clear c33
  try clear c35
  try clear c36
  try clear c38
  try clear c42
  try clear c44
  try clear c46
  try clear hcz15_0
  try clear hcz15_1
  try clear hcz18_0
  try clear hcz18_1
  try clear hcz20_0
  try clear hcz20_1
  try clear hcz24_0
  try clear hcz24_1
  try clear hcz27_0
  try clear hcz27_1
  try clear hcz31_0
  try clear hcz31_1
  try clear hcz37_0
  try clear hcz37_1
  try clear hcz39_0
  try clear hcz39_1
  try clear hcz40_0
  try clear hcz40_1
  try clear hfz15_0
  try clear hfz15_1
  try clear hfz18_0
  try clear hfz18_1
  try clear hfz20_0
  try clear hfz20_1
  try clear hfz24_0
  try clear hfz24_1
  try clear hfz27_0
  try clear hfz27_1
  try clear hfz31_0
  try clear hfz31_1
  try clear hfz37_0
  try clear hfz37_1
  try clear hfz39_0
  try clear hfz39_1
  try clear hfz40_0
  try clear hfz40_1
  try clear p2
  obtain ⟨kq, x57_33, rfl, HA, HJ33, BK406, BK407, BK408, HB⟩ := hcut
  cases kq with
  | zero => exact absurd HA.out (by simp [apogeeref10_Turn.j1])
  | succ kj33 =>
   have H := HA.out
   clear HA
   simp only [apogeeref10_Turn.j1] at H
   by_cases c48 : x57_33 = true
   rotate_left
   ·replace c48 := Bool.eq_false_iff.mpr c48
    subst c48
    rw [if_neg bn] at H
    replace H := Option.bind_eq_some_iff.mp H
    obtain ⟨⟨t416, t417⟩, A510, H⟩ := H
    replace H : ((apogeeref01_Mul.f kj33 (wrap64 (a1_1 - a0_1)) (wrap64 (a2_0 - a0_0))).bind fun bt418 => ((apogeeref01_Cmp.f kj33 t416 t417 bt418.1 bt418.2).bind fun t420 => (some t420))) = some r := H
    have A51 := bA A510
    clear A510
    replace H := Option.bind_eq_some_iff.mp H
    obtain ⟨⟨t418, t419⟩, A520, H⟩ := H
    replace H : ((apogeeref01_Cmp.f kj33 t416 t417 t418 t419).bind fun t420 => (some t420)) = some r := H
    have A52 := bA A520
    clear A520
    replace H := Option.bind_eq_some_iff.mp H
    obtain ⟨t420, A530, H⟩ := H
    have A53 := bA A530
    clear A530
    obtain rfl := Option.some.inj H
    go_wp2_with (first | (go_at_call 81; (with_reducible refine (apogeeref01_Mul.calls kj33 (wrap64 (a1_0 - a0_0)) (wrap64 (a2_1 - a0_1)) t416 t417 _ A51.out).mono ?_); rintro e w54 ⟨rfl, hb⟩; replace BK406 := bA (bB BK406 hb); replace BK407 := bA (bB BK407 hb); replace BK408 := bA (bB BK408 hb); replace HB := bA (bS hb); (try clear hb)) | (go_at_call 81; (with_reducible refine (apogeeref01_Mul.calls kj33 (wrap64 (a1_1 - a0_1)) (wrap64 (a2_0 - a0_0)) t418 t419 _ A52.out).mono ?_); rintro e w55 ⟨rfl, hb⟩; replace BK406 := bA (bB BK406 hb); replace BK407 := bA (bB BK407 hb); replace BK408 := bA (bB BK408 hb); replace HB := bA (bS hb); (try clear hb)) | (go_at_call 83; (with_reducible refine (apogeeref01_Cmp.calls kj33 t416 t417 t418 t419 t420 _ A53.out).mono ?_); rintro e w56 ⟨rfl, hb⟩; replace BK406 := bA (bB BK406 hb); replace BK407 := bA (bB BK407 hb); replace BK408 := bA (bB BK408 hb); replace HB := bA (bS hb); (try clear hb)))
    repeat (go_quiet (first | (go_at_call 81; (with_reducible refine (apogeeref01_Mul.calls kj33 (wrap64 (a1_0 - a0_0)) (wrap64 (a2_1 - a0_1)) t416 t417 _ A51.out).mono ?_); rintro e w54 ⟨rfl, hb⟩; have n0_ := bA (bB BK406 hb); have n1_ := bA (bB BK407 hb); have n2_ := bA (bB BK408 hb); have n3_ := bA (bS hb); clear BK406; clear BK407; clear BK408; clear HB; have BK406 := n0_; have BK407 := n1_; have BK408 := n2_; have HB := n3_; clear n0_ n1_ n2_ n3_; (try clear hb)) | (go_at_call 81; (with_reducible refine (apogeeref01_Mul.calls kj33 (wrap64 (a1_1 - a0_1)) (wrap64 (a2_0 - a0_0)) t418 t419 _ A52.out).mono ?_); rintro e w55 ⟨rfl, hb⟩; have n0_ := bA (bB BK406 hb); have n1_ := bA (bB BK407 hb); have n2_ := bA (bB BK408 hb); have n3_ := bA (bS hb); clear BK406; clear BK407; clear BK408; clear HB; have BK406 := n0_; have BK407 := n1_; have BK408 := n2_; have HB := n3_; clear n0_ n1_ n2_ n3_; (try clear hb)) | (go_at_call 83; (with_reducible refine (apogeeref01_Cmp.calls kj33 t416 t417 t418 t419 t420 _ A53.out).mono ?_); rintro e w56 ⟨rfl, hb⟩; have n0_ := bA (bB BK406 hb); have n1_ := bA (bB BK407 hb); have n2_ := bA (bB BK408 hb); have n3_ := bA (bS hb); clear BK406; clear BK407; clear BK408; clear HB; have BK406 := n0_; have BK407 := n1_; have BK408 := n2_; have HB := n3_; clear n0_ n1_ n2_ n3_; (try clear hb))); try go_wp2_with (first | (go_at_call 81; (with_reducible refine (apogeeref01_Mul.calls kj33 (wrap64 (a1_0 - a0_0)) (wrap64 (a2_1 - a0_1)) t416 t417 _ A51.out).mono ?_); rintro e w54 ⟨rfl, hb⟩; replace BK406 := bA (bB BK406 hb); replace BK407 := bA (bB BK407 hb); replace BK408 := bA (bB BK408 hb); replace HB := bA (bS hb); (try clear hb)) | (go_at_call 81; (with_reducible refine (apogeeref01_Mul.calls kj33 (wrap64 (a1_1 - a0_1)) (wrap64 (a2_0 - a0_0)) t418 t419 _ A52.out).mono ?_); rintro e w55 ⟨rfl, hb⟩; replace BK406 := bA (bB BK406 hb); replace BK407 := bA (bB BK407 hb); replace BK408 := bA (bB BK408 hb); replace HB := bA (bS hb); (try clear hb)) | (go_at_call 83; (with_reducible refine (apogeeref01_Cmp.calls kj33 t416 t417 t418 t419 t420 _ A53.out).mono ?_); rintro e w56 ⟨rfl, hb⟩; replace BK406 := bA (bB BK406 hb); replace BK407 := bA (bB BK407 hb); replace BK408 := bA (bB BK408 hb); replace HB := bA (bS hb); (try clear hb))))
    go_ret
    exact bF
   subst c48
   rw [if_pos rfl] at H
   by_cases c49 : (wrap64 ((wrap64 (a1_0 - a0_0)) * (wrap64 (a2_1 - a0_1)))) < (wrap64 ((wrap64 (a1_1 - a0_1)) * (wrap64 (a2_0 - a0_0))))
   ·rw [if_pos c49] at H
    have c49b0 : decide ((wrap64 ((wrap64 (a1_0 - a0_0)) * (wrap64 (a2_1 - a0_1)))) < (wrap64 ((wrap64 (a1_1 - a0_1)) * (wrap64 (a2_0 - a0_0))))) = true := decide_eq_true c49
    clear c49
    obtain rfl := Option.some.inj H
    go_wp2
    repeat (go_quiet (fail); try go_wp2)
    go_ret
    exact bF
   rw [if_neg c49] at H
   have c49b0 : decide ((wrap64 ((wrap64 (a1_0 - a0_0)) * (wrap64 (a2_1 - a0_1)))) < (wrap64 ((wrap64 (a1_1 - a0_1)) * (wrap64 (a2_0 - a0_0))))) = false := decide_eq_false c49
   clear c49
   by_cases c50 : (wrap64 ((wrap64 (a1_0 - a0_0)) * (wrap64 (a2_1 - a0_1)))) > (wrap64 ((wrap64 (a1_1 - a0_1)) * (wrap64 (a2_0 - a0_0))))
   ·rw [if_pos c50] at H
    have c50b0 : decide ((wrap64 ((wrap64 (a1_1 - a0_1)) * (wrap64 (a2_0 - a0_0)))) < (wrap64 ((wrap64 (a1_0 - a0_0)) * (wrap64 (a2_1 - a0_1))))) = true := decide_eq_true c50
    clear c50
    obtain rfl := Option.some.inj H
    go_wp2
    repeat (go_quiet (fail); try go_wp2)
    go_ret
    exact bF
   rw [if_neg c50] at H
   have c50b0 : decide ((wrap64 ((wrap64 (a1_1 - a0_1)) * (wrap64 (a2_0 - a0_0)))) < (wrap64 ((wrap64 (a1_0 - a0_0)) * (wrap64 (a2_1 - a0_1))))) = false := decide_eq_false c50
   clear c50
   obtain rfl := Option.some.inj H
   go_wp2
   repeat (go_quiet (fail); try go_wp2)
   go_ret
   exact bF
/-! ### apogeeref10_On: function 70 -/
def apogeeref10_On.f (k : Nat) (a0_0 : Int) (a0_1 : Int) (a1_0 : Int) (a1_1 : Int) (a2_0 : Int) (a2_1 : Int) : Option (Bool) := (apogeeref10_Right.f a1_0 a1_1).bind fun t424 => (if t424 = true then ((apogeeref10_Right.f a2_0 a2_1).bind fun t425 => (if t425 = true then ((apogeeref10_Right.f a0_0 a0_1).bind fun t426 => (if t426 = true then ((apogeeref10_Turn.f k a1_0 a1_1 a2_0 a2_1 a0_0 a0_1).bind fun t427 => (if t427 = 0 then (if a0_0 ≥ (mn a1_0 a2_0) then (if a0_0 ≤ (mx a1_0 a2_0) then (if a0_1 ≥ (mn a1_1 a2_1) then (some (decide (a0_1 ≤ (mx a1_1 a2_1)))) else (some false)) else (some false)) else (some false)) else (some false))) else (some false))) else (some false))) else (some false))
theorem apogeeref10_On.mono : ∀ a0 a1 a2 a3 a4 a5 k, LeO (apogeeref10_On.f k a0 a1 a2 a3 a4 a5) (apogeeref10_On.f (k + 1) a0 a1 a2 a3 a4 a5) := by
 intro a0 a1 a2 a3 a4 a5 k
 unfold apogeeref10_On.f
 have m0_ := @apogeeref10_Turn.mono
 exact bMo
set_option maxHeartbeats 8000000 in
set_option maxRecDepth 100000 in
theorem apogeeref10_On.calls (k : Nat) (a0_0 : Int) (a0_1 : Int) (a1_0 : Int) (a1_1 : Int) (a2_0 : Int) (a2_1 : Int) (r : Bool) (w : World) (h : apogeeref10_On.f k a0_0 a0_1 a1_0 a1_1 a2_0 a2_1 = some r) :
  Calls Try.prog 70 #[.agg #[.int .i64 a0_0, .int .i64 a0_1], .agg #[.int .i64 a1_0, .int .i64 a1_1], .agg #[.int .i64 a2_0, .int .i64 a2_1]] w fun e w' => e = .returned (.bool r) ∧ Below w.heap.size w w' := by
 have hu41 := Try.underlying41
 have HB := bA (Below.refl w.heap.size w)
 have H : ((apogeeref10_Right.f a1_0 a1_1).bind fun t424 => (if t424 = true then ((apogeeref10_Right.f a2_0 a2_1).bind fun t425 => (if t425 = true then ((apogeeref10_Right.f a0_0 a0_1).bind fun t426 => (if t426 = true then ((apogeeref10_Turn.f k a1_0 a1_1 a2_0 a2_1 a0_0 a0_1).bind fun t427 => (if t427 = 0 then (if a0_0 ≥ (mn a1_0 a2_0) then (if a0_0 ≤ (mx a1_0 a2_0) then (if a0_1 ≥ (mn a1_1 a2_1) then (some (decide (a0_1 ≤ (mx a1_1 a2_1)))) else (some false)) else (some false)) else (some false)) else (some false))) else (some false))) else (some false))) else (some false))) = some r := h
 clear h
 replace H := Option.bind_eq_some_iff.mp H
 obtain ⟨t424, A40, H⟩ := H
 have A4 := bA A40
 clear A40
 by_cases c5 : t424 = true
 subst c5
 rw [if_pos rfl] at H
 replace H := Option.bind_eq_some_iff.mp H
 obtain ⟨t425, A60, H⟩ := H
 have A6 := bA A60
 clear A60
 by_cases c7 : t425 = true
 subst c7
 rw [if_pos rfl] at H
 replace H := Option.bind_eq_some_iff.mp H
 obtain ⟨t426, A80, H⟩ := H
 have A8 := bA A80
 clear A80
 by_cases c9 : t426 = true
 subst c9
 rw [if_pos rfl] at H
 replace H := Option.bind_eq_some_iff.mp H
 obtain ⟨t427, A100, H⟩ := H
 have A10 := bA A100
 clear A100
 by_cases c11 : t427 = 0
 rw [if_pos c11] at H
 have c11b0 : (t427 == 0) = true := beq_iff_eq.mpr c11
 have c11b1 : (t427 != 0) = false := bne_eq_false_iff_eq.mpr c11
 clear c11
 obtain ⟨ji12, hji12⟩ : ∃ j_ : Int, (mn a1_0 a2_0) = j_ := ⟨_, rfl⟩
 replace H : (if a0_0 ≥ (ji12) then (if a0_0 ≤ (mx a1_0 a2_0) then (if a0_1 ≥ (mn a1_1 a2_1) then (some (decide (a0_1 ≤ (mx a1_1 a2_1)))) else (some false)) else (some false)) else (some false)) = some r := by first | (rw [hji12] at H; exact H) | (simp only [hji12] at H ⊢; exact H)
 (try rw [hji12] at A4)
 (try rw [hji12] at A6)
 (try rw [hji12] at A8)
 (try rw [hji12] at A10)
 have hji12_ : (if a2_0 < a1_0 then a2_0 else a1_0) = ji12 := hji12
 by_cases c13 : a0_0 ≥ (ji12)
 rw [if_pos c13] at H
 have c13b0 : decide ((ji12) ≤ a0_0) = true := decide_eq_true c13
 clear c13
 obtain ⟨ji14, hji14⟩ : ∃ j_ : Int, (mx a1_0 a2_0) = j_ := ⟨_, rfl⟩
 replace H : (if a0_0 ≤ (ji14) then (if a0_1 ≥ (mn a1_1 a2_1) then (some (decide (a0_1 ≤ (mx a1_1 a2_1)))) else (some false)) else (some false)) = some r := by first | (rw [hji14] at H; exact H) | (simp only [hji14] at H ⊢; exact H)
 (try rw [hji14] at A4)
 (try rw [hji14] at A6)
 (try rw [hji14] at A8)
 (try rw [hji14] at A10)
 have hji14_ : (if a1_0 < a2_0 then a2_0 else a1_0) = ji14 := hji14
 by_cases c15 : a0_0 ≤ (ji14)
 rw [if_pos c15] at H
 have c15b0 : decide (a0_0 ≤ (ji14)) = true := decide_eq_true c15
 clear c15
 obtain ⟨ji16, hji16⟩ : ∃ j_ : Int, (mn a1_1 a2_1) = j_ := ⟨_, rfl⟩
 replace H : (if a0_1 ≥ (ji16) then (some (decide (a0_1 ≤ (mx a1_1 a2_1)))) else (some false)) = some r := by first | (rw [hji16] at H; exact H) | (simp only [hji16] at H ⊢; exact H)
 (try rw [hji16] at A4)
 (try rw [hji16] at A6)
 (try rw [hji16] at A8)
 (try rw [hji16] at A10)
 have hji16_ : (if a2_1 < a1_1 then a2_1 else a1_1) = ji16 := hji16
 by_cases c17 : a0_1 ≥ (ji16)
 rw [if_pos c17] at H
 have c17b0 : decide ((ji16) ≤ a0_1) = true := decide_eq_true c17
 clear c17
 obtain ⟨ji18, hji18⟩ : ∃ j_ : Int, (mx a1_1 a2_1) = j_ := ⟨_, rfl⟩
 replace H : (some (decide (a0_1 ≤ (ji18)))) = some r := by first | (rw [hji18] at H; exact H) | (simp only [hji18] at H ⊢; exact H)
 (try rw [hji18] at A4)
 (try rw [hji18] at A6)
 (try rw [hji18] at A8)
 (try rw [hji18] at A10)
 have hji18_ : (if a1_1 < a2_1 then a2_1 else a1_1) = ji18 := hji18
 obtain rfl := Option.some.inj H
 rotate_left
 rw [if_neg c17] at H
 have c17b0 : decide ((ji16) ≤ a0_1) = false := decide_eq_false c17
 clear c17
 obtain rfl := Option.some.inj H
 rotate_left
 rw [if_neg c15] at H
 have c15b0 : decide (a0_0 ≤ (ji14)) = false := decide_eq_false c15
 clear c15
 obtain rfl := Option.some.inj H
 rotate_left
 rw [if_neg c13] at H
 have c13b0 : decide ((ji12) ≤ a0_0) = false := decide_eq_false c13
 clear c13
 obtain rfl := Option.some.inj H
 rotate_left
 rw [if_neg c11] at H
 have c11b0 : (t427 == 0) = false := beq_eq_false_iff_ne.mpr c11
 have c11b1 : (t427 != 0) = true := bne_iff_ne.mpr c11
 obtain rfl := Option.some.inj H
 rotate_left
 replace c9 := Bool.eq_false_iff.mpr c9
 subst c9
 rw [if_neg bn] at H
 obtain rfl := Option.some.inj H
 rotate_left
 replace c7 := Bool.eq_false_iff.mpr c7
 subst c7
 rw [if_neg bn] at H
 obtain rfl := Option.some.inj H
 rotate_left
 replace c5 := Bool.eq_false_iff.mpr c5
 subst c5
 rw [if_neg bn] at H
 obtain rfl := Option.some.inj H
 rotate_left
 all_goals go_enter Try.func70, Try.ntmps70
 all_goals go_wp2_with (first | ((with_reducible refine gate_dst (N := 3) rfl ?_); (try (refine gate_guard (by rfl) ?_; dsimp only)); refine bE (N := 3) (cs := #[.int .i64 a0_0, .int .i64 a0_1]) (t := 41) ?_; intro gb421 hg wz0 hbox hb; have BK421 := bA (hbox); have GW421 := bA (bZ hg); have GE421 := bA (bZ hg); replace HB := bA (bS hb); clear hb hbox hg) | ((with_reducible refine gate_dst (N := 4) rfl ?_); (try (refine gate_guard (by rfl) ?_; dsimp only)); refine bE (N := 4) (cs := #[.int .i64 a1_0, .int .i64 a1_1]) (t := 41) ?_; intro gb422 hg wz1 hbox hb; have BK422 := bA (hbox); have GW422 := bA (bZ hg); have GE422 := bA (bZ hg); have NB421_422 := bA (bL BK421 hg); have NB422_421 := bA (bG BK421 hg); replace BK421 := bA (bB BK421 hb); replace HB := bA (bS hb); clear hb hbox hg) | ((with_reducible refine gate_dst (N := 5) rfl ?_); (try (refine gate_guard (by rfl) ?_; dsimp only)); refine bE (N := 5) (cs := #[.int .i64 a2_0, .int .i64 a2_1]) (t := 41) ?_; intro gb423 hg wz2 hbox hb; have BK423 := bA (hbox); have GW423 := bA (bZ hg); have GE423 := bA (bZ hg); have NB421_423 := bA (bL BK421 hg); have NB423_421 := bA (bG BK421 hg); have NB422_423 := bA (bL BK422 hg); have NB423_422 := bA (bG BK422 hg); replace BK421 := bA (bB BK421 hb); replace BK422 := bA (bB BK422 hb); replace HB := bA (bS hb); clear hb hbox hg; have hz1 := NB422_421.out; have hz2 := NB421_422.out; have hz3 := NB422_423.out; have hz4 := NB423_422.out; obtain ⟨hz5, hz6, hz7, hz8⟩ := bc2 BK422) | ((first | ((with_reducible refine gate_callee (f := 40) rfl ?_); refine bC (some 8) Try.func40 #[.agg #[.int .i64 a1_0, .int .i64 a1_1]] ?_) | go_at_call 40); (with_reducible refine (apogeeref10_Right.calls a1_0 a1_1 true _ A4.out).mono ?_); rintro e wz3 ⟨rfl, hb⟩; (first | refine ⟨_, rfl, ?_⟩ | skip); replace BK421 := bA (bB BK421 hb); replace BK422 := bA (bB BK422 hb); replace BK423 := bA (bB BK423 hb); replace HB := bA (bS hb); (try clear hb); have hz9 := NB423_421.out; have hz10 := NB421_423.out; obtain ⟨hz11, hz12, hz13, hz14⟩ := bc2 BK423) | (go_at_call 40; (with_reducible refine (apogeeref10_Right.calls a2_0 a2_1 true _ A6.out).mono ?_); rintro e wz4 ⟨rfl, hb⟩; replace BK421 := bA (bB BK421 hb); replace BK422 := bA (bB BK422 hb); replace BK423 := bA (bB BK423 hb); replace HB := bA (bS hb); (try clear hb); obtain ⟨hz15, hz16, hz17, hz18⟩ := bc2 BK421) | (go_at_call 40; (with_reducible refine (apogeeref10_Right.calls a0_0 a0_1 true _ A8.out).mono ?_); rintro e wz5 ⟨rfl, hb⟩; replace BK421 := bA (bB BK421 hb); replace BK422 := bA (bB BK422 hb); replace BK423 := bA (bB BK423 hb); replace HB := bA (bS hb); (try clear hb); obtain ⟨hz19, hz20, hz7, hz8⟩ := bc2 BK422; obtain ⟨hz21, hz22, hz13, hz14⟩ := bc2 BK423; obtain ⟨hz23, hz24, hz17, hz18⟩ := bc2 BK421) | (go_at_call 75; (with_reducible refine (apogeeref10_Turn.calls k a1_0 a1_1 a2_0 a2_1 a0_0 a0_1 t427 _ A10.out).mono ?_); rintro e wz6 ⟨rfl, hb⟩; replace BK421 := bA (bB BK421 hb); replace BK422 := bA (bB BK422 hb); replace BK423 := bA (bB BK423 hb); replace HB := bA (bS hb); (try clear hb); obtain ⟨hz25, hz26, hz17, hz18⟩ := bc2 BK421; obtain ⟨hz27, hz28, hz7, hz8⟩ := bc2 BK422; obtain ⟨hz29, hz30, hz13, hz14⟩ := bc2 BK423) | (go_at_call 40; (with_reducible refine (apogeeref10_Right.calls a0_0 a0_1 false _ A8.out).mono ?_); rintro e wz5 ⟨rfl, hb⟩; replace BK421 := bA (bB BK421 hb); replace BK422 := bA (bB BK422 hb); replace BK423 := bA (bB BK423 hb); replace HB := bA (bS hb); (try clear hb)) | (go_at_call 40; (with_reducible refine (apogeeref10_Right.calls a2_0 a2_1 false _ A6.out).mono ?_); rintro e wz4 ⟨rfl, hb⟩; replace BK421 := bA (bB BK421 hb); replace BK422 := bA (bB BK422 hb); replace BK423 := bA (bB BK423 hb); replace HB := bA (bS hb); (try clear hb)) | ((first | ((with_reducible refine gate_callee (f := 40) rfl ?_); refine bC (some 8) Try.func40 #[.agg #[.int .i64 a1_0, .int .i64 a1_1]] ?_) | go_at_call 40); (with_reducible refine (apogeeref10_Right.calls a1_0 a1_1 false _ A4.out).mono ?_); rintro e wz3 ⟨rfl, hb⟩; (first | refine ⟨_, rfl, ?_⟩ | skip); replace BK421 := bA (bB BK421 hb); replace BK422 := bA (bB BK422 hb); replace BK423 := bA (bB BK423 hb); replace HB := bA (bS hb); (try clear hb)))
 ·go_ret
  exact ⟨by first | rfl | (simp [errW_none, errW_some] <;> rfl) | (simp only [← hji12, ← hji14, ← hji16, ← hji18]; first | rfl | (simp [errW_none, errW_some] <;> rfl)) | (simp [*, errW_none, errW_some] <;> rfl), by repeat (first | (with_reducible first | exact HB.out | apply below_alloc | apply pw_below_drewN | apply below_drew1 | refine below_set ?_ GE421.out | refine below_set ?_ GE422.out | refine below_set ?_ GE423.out) | exact HB.out)⟩
 ·go_ret
  exact ⟨by first | rfl | (simp [errW_none, errW_some] <;> rfl) | (simp only [← hji12, ← hji14, ← hji16]; first | rfl | (simp [errW_none, errW_some] <;> rfl)) | (simp [*, errW_none, errW_some] <;> rfl), by repeat (first | (with_reducible first | exact HB.out | apply below_alloc | apply pw_below_drewN | apply below_drew1 | refine below_set ?_ GE421.out | refine below_set ?_ GE422.out | refine below_set ?_ GE423.out) | exact HB.out)⟩
 ·go_ret
  exact ⟨by first | rfl | (simp [errW_none, errW_some] <;> rfl) | (simp only [← hji12, ← hji14]; first | rfl | (simp [errW_none, errW_some] <;> rfl)) | (simp [*, errW_none, errW_some] <;> rfl), by repeat (first | (with_reducible first | exact HB.out | apply below_alloc | apply pw_below_drewN | apply below_drew1 | refine below_set ?_ GE421.out | refine below_set ?_ GE422.out | refine below_set ?_ GE423.out) | exact HB.out)⟩
 ·go_ret
  exact ⟨by first | rfl | (simp [errW_none, errW_some] <;> rfl) | (simp only [← hji12]; first | rfl | (simp [errW_none, errW_some] <;> rfl)) | (simp [*, errW_none, errW_some] <;> rfl), by repeat (first | (with_reducible first | exact HB.out | apply below_alloc | apply pw_below_drewN | apply below_drew1 | refine below_set ?_ GE421.out | refine below_set ?_ GE422.out | refine below_set ?_ GE423.out) | exact HB.out)⟩
 ·go_ret
  exact bF
 ·go_ret
  exact bF
 ·go_ret
  exact bF
 go_ret
 exact bF
end Go.Proofs.Ytjmibjmlihmglaa.G
