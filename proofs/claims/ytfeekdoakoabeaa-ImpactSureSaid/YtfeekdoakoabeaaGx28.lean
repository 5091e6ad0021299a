-- Written by a program of this session out of the translation; Lean checks it.
import Derived.Test.YtfeekdoakoabeaaGx0
import Derived.Test.YtfeekdoakoabeaaGx7
import Derived.Test.YtfeekdoakoabeaaGx22
import Derived.Test.YtfeekdoakoabeaaGx23
import Derived.Test.YtfeekdoakoabeaaGx26
import Derived.Test.YtfeekdoakoabeaaGx27
namespace Go.Proofs.Ytfeekdoakoabeaa.G
open Go.RowKit Go.Proofs.YtfeekdoakoabeaaW.PrintWords Go.Proofs.YtfeekdoakoabeaaW.PrintLast Go.Proofs.YtfeekdoakoabeaaW.PrintMore
attribute [local go_sem] max2_int min2_int max_two min_two max_three min_three max_four min_four   -- for this text's walks alone
set_option linter.unusedVariables false
set_option linter.unusedSimpArgs false

/-! ### apogeelaw18_ImpactSure: function 3 -/
mutual
def apogeelaw18_ImpactSure.j0 : Nat → Int → Int → Bool → Int → Int → Int → Int → Int → Int → Int → Int → Int → Int → Int → Int → Int → Int → Int → Int → Int → Int → Option (Bool)
 | 0, _, _, _, _, _, _, _, _, _, _, _, _, _, _, _, _, _, _, _, _, _ => none
 | k + 1, x1, x2, x34, x620000, x620001, x620002, x620003, x620004, x620005, x620006, x620007, x621000, x621001, x621002, x621003, x621004, x621005, x635000, x635001, x635002, x635003 => if x34 = true then (none) else ((apogeelaw18_Off.f x620000 x620001 x620002 x620003 x620004 x620005 x620006 x620007 x621000 x621001 x621002 x621003 x621004 x621005 x2).bind fun bt636 => (if bt636.2.2.2.2.1 < 0 then (some true) else ((apogeeref17_Time.f k bt636.2.2.2.2.1 bt636.2.2.2.2.2.2.2 x1).bind fun t645 => ((apogeeref17_Above.f bt636.2.2.2.2.1 bt636.2.2.2.2.2.2.2 x1 t645).bind fun t646 => (if t646 < 0 then (apogeelaw18_ImpactSure.j1 k t645 true x635000 x635001 x635002 x635003 bt636.1 bt636.2.1 bt636.2.2.1 bt636.2.2.2.1 bt636.2.2.2.2.1 bt636.2.2.2.2.2.1 bt636.2.2.2.2.2.2.1 bt636.2.2.2.2.2.2.2) else ((apogeeref17_Above.f bt636.2.2.2.2.1 bt636.2.2.2.2.2.2.2 x1 (wrap64 (t645 + 2))).bind fun t647 => (apogeelaw18_ImpactSure.j1 k t645 (decide (t647 ≥ 0)) x635000 x635001 x635002 x635003 bt636.1 bt636.2.1 bt636.2.2.1 bt636.2.2.2.1 bt636.2.2.2.2.1 bt636.2.2.2.2.2.1 bt636.2.2.2.2.2.2.1 bt636.2.2.2.2.2.2.2)))))))
def apogeelaw18_ImpactSure.j1 : Nat → Int → Bool → Int → Int → Int → Int → Int → Int → Int → Int → Int → Int → Int → Int → Option (Bool)
 | 0, _, _, _, _, _, _, _, _, _, _, _, _, _, _ => none
 | k + 1, x12, x66, x635000, x635001, x635002, x635003, x645000, x645001, x645002, x645003, x645004, x645005, x645006, x645007 => if x66 = true then (none) else ((apogeeref18_Way.f x645000 x645001 x645002 x645003 x645004 x645005 x645006 x645007 x12).bind fun bt648 => ((apogeeref12_Has.f x635000 x635001 x635002 x635003 bt648.1 bt648.2).bind fun t650 => (if t650 = true then ((apogeeref18_Way.f x645000 x645001 x645002 x645003 x645004 x645005 x645006 x645007 (wrap64 (x12 + 1))).bind fun bt651 => ((apogeeref12_Has.f x635000 x635001 x635002 x635003 bt651.1 bt651.2).bind fun t653 => (if t653 = true then ((apogeeref18_Way.f x645000 x645001 x645002 x645003 x645004 x645005 x645006 x645007 (wrap64 (x12 + 2))).bind fun bt654 => ((apogeeref12_Has.f x635000 x635001 x635002 x635003 bt654.1 bt654.2).bind fun t656 => (some t656))) else (none)))) else (none))))
end
def apogeelaw18_ImpactSure.f (k : Nat) (a0_0 : Int) (a0_1 : Int) (a0_2 : Int) (a0_3 : Int) (a0_4 : Int) (a0_5 : Int) (a0_6 : Int) (a0_7 : Int) (a1 : Int) (a2 : Int) (a3_0 : Int) (a3_1 : Int) (a3_2 : Int) (a3_3 : Int) (a3_4 : Int) (a3_5 : Int) : Option (Bool) := (apogeelaw18_Held.f a0_0 a0_1 a0_2 a0_3 a0_4 a0_5 a0_6 a0_7).bind fun bt621 => ((impact_Box.f k bt621.1 bt621.2.1 bt621.2.2.1 bt621.2.2.2.1 bt621.2.2.2.2.1 bt621.2.2.2.2.2.1 bt621.2.2.2.2.2.2.1 bt621.2.2.2.2.2.2.2 (wrap64 (1 + (wrap64 (Int.tmod (IntKind.u64.wrap (a1)) 100)))) (Go.bits .and .i64 a2 1023)).bind fun bt629 => ((apogeelaw18_awake.f k).bind fun t635 => (if t635 = true then (apogeelaw18_ImpactSure.j0 k (wrap64 (1 + (wrap64 (Int.tmod (IntKind.u64.wrap (a1)) 100)))) (Go.bits .and .i64 a2 1023) (!bt629.2.2.2.2) bt621.1 bt621.2.1 bt621.2.2.1 bt621.2.2.2.1 bt621.2.2.2.2.1 bt621.2.2.2.2.2.1 bt621.2.2.2.2.2.2.1 bt621.2.2.2.2.2.2.2 a3_0 a3_1 a3_2 a3_3 a3_4 a3_5 bt629.1 bt629.2.1 bt629.2.2.1 bt629.2.2.2.1) else (apogeelaw18_ImpactSure.j0 k (wrap64 (1 + (wrap64 (Int.tmod (IntKind.u64.wrap (a1)) 100)))) (Go.bits .and .i64 a2 1023) true bt621.1 bt621.2.1 bt621.2.2.1 bt621.2.2.2.1 bt621.2.2.2.2.1 bt621.2.2.2.2.2.1 bt621.2.2.2.2.2.2.1 bt621.2.2.2.2.2.2.2 a3_0 a3_1 a3_2 a3_3 a3_4 a3_5 bt629.1 bt629.2.1 bt629.2.2.1 bt629.2.2.2.1))))
theorem apogeelaw18_ImpactSure.mono_l : ∀ k, (∀ y0 y1 y2 y3 y4 y5 y6 y7 y8 y9 y10 y11 y12 y13 y14 y15 y16 y17 y18 y19 y20, LeO (apogeelaw18_ImpactSure.j0 k y0 y1 y2 y3 y4 y5 y6 y7 y8 y9 y10 y11 y12 y13 y14 y15 y16 y17 y18 y19 y20) (apogeelaw18_ImpactSure.j0 (k + 1) y0 y1 y2 y3 y4 y5 y6 y7 y8 y9 y10 y11 y12 y13 y14 y15 y16 y17 y18 y19 y20)) ∧ (∀ y0 y1 y2 y3 y4 y5 y6 y7 y8 y9 y10 y11 y12 y13, LeO (apogeelaw18_ImpactSure.j1 k y0 y1 y2 y3 y4 y5 y6 y7 y8 y9 y10 y11 y12 y13) (apogeelaw18_ImpactSure.j1 (k + 1) y0 y1 y2 y3 y4 y5 y6 y7 y8 y9 y10 y11 y12 y13))
 | 0 => ⟨fun _ _ _ _ _ _ _ _ _ _ _ _ _ _ _ _ _ _ _ _ _ r h => by simp [apogeelaw18_ImpactSure.j0] at h, fun _ _ _ _ _ _ _ _ _ _ _ _ _ _ r h => by simp [apogeelaw18_ImpactSure.j1] at h⟩
 | k + 1 => by
  obtain ⟨ih0, ih1⟩ := apogeelaw18_ImpactSure.mono_l k
  refine ⟨?_, ?_⟩
  ·intro y0 y1 y2 y3 y4 y5 y6 y7 y8 y9 y10 y11 y12 y13 y14 y15 y16 y17 y18 y19 y20
   unfold apogeelaw18_ImpactSure.j0
   have m0_ := @apogeelaw18_awake.mono
   have m1_ := @apogeeref17_Time.mono
   have m2_ := @impact_Box.mono
   exact bMo
  ·intro y0 y1 y2 y3 y4 y5 y6 y7 y8 y9 y10 y11 y12 y13
   unfold apogeelaw18_ImpactSure.j1
   have m0_ := @apogeelaw18_awake.mono
   have m1_ := @apogeeref17_Time.mono
   have m2_ := @impact_Box.mono
   exact bMo
theorem apogeelaw18_ImpactSure.mono : ∀ a0 a1 a2 a3 a4 a5 a6 a7 a8 a9 a10 a11 a12 a13 a14 a15 k, LeO (apogeelaw18_ImpactSure.f k a0 a1 a2 a3 a4 a5 a6 a7 a8 a9 a10 a11 a12 a13 a14 a15) (apogeelaw18_ImpactSure.f (k + 1) a0 a1 a2 a3 a4 a5 a6 a7 a8 a9 a10 a11 a12 a13 a14 a15) := by
 intro a0 a1 a2 a3 a4 a5 a6 a7 a8 a9 a10 a11 a12 a13 a14 a15 k
 obtain ⟨ih0, ih1⟩ := apogeelaw18_ImpactSure.mono_l k
 unfold apogeelaw18_ImpactSure.f
 have m0_ := @apogeelaw18_awake.mono
 have m1_ := @apogeeref17_Time.mono
 have m2_ := @impact_Box.mono
 exact bMo
def apogeelaw18_ImpactSure.T11 : Bool × List (List Nat × List Nat) := (true, [([], []), ([], []), ([], []), ([1, 2], [1, 2]), ([0, 3, 3], [0, 3]), ([4, 4], [4]), ([5], [5]), ([5], [5]), ([5], [5]), ([8, 5], [5, 8]), ([7, 9, 5, 5], [5, 7, 9]), ([6, 10, 10, 5], [5, 6, 10]), ([5, 11], [5, 11]), ([12, 11], [12]), ([13], [13]), ([13], [13]), ([13], [13]), ([16, 13], [13, 16]), ([15, 17, 13, 13], [13, 15, 17]), ([14, 18, 18, 13], [13, 14, 18]), ([13, 19], [13, 19]), ([20, 19, 0, 1, 2, 3, 4, 5, 6, 7, 8, 9, 10, 11, 12, 13, 14, 15, 16, 17, 18, 19, 20], [20])])
def apogeelaw18_ImpactSure.B11 : List Nat := [0, 0, 0, 6, 15, 31, 63, 63, 63, 319, 959, 2047, 4095, 8191, 16383, 16383, 16383, 81919, 245759, 524287, 1048575, 2097151]
theorem apogeelaw18_ImpactSure.tab11 : rtab .any (opsOf Try.f3 11) = apogeelaw18_ImpactSure.T11 := by kernel_rfl
theorem apogeelaw18_ImpactSure.bits11 : waitsOk apogeelaw18_ImpactSure.T11.2 apogeelaw18_ImpactSure.B11 = true := by kernel_rfl
set_option maxHeartbeats 8000000 in
set_option maxRecDepth 100000 in
theorem apogeelaw18_ImpactSure.calls (k : Nat) (a0_0 : Int) (a0_1 : Int) (a0_2 : Int) (a0_3 : Int) (a0_4 : Int) (a0_5 : Int) (a0_6 : Int) (a0_7 : Int) (a1 : Int) (a2 : Int) (a3_0 : Int) (a3_1 : Int) (a3_2 : Int) (a3_3 : Int) (a3_4 : Int) (a3_5 : Int) (r : Bool) (w : World) (h : apogeelaw18_ImpactSure.f k a0_0 a0_1 a0_2 a0_3 a0_4 a0_5 a0_6 a0_7 a1 a2 a3_0 a3_1 a3_2 a3_3 a3_4 a3_5 = some r) :
  Calls Try.prog 3 #[.agg #[.int .i64 a0_0, .int .i64 a0_1, .int .i64 a0_2, .int .i64 a0_3, .int .i64 a0_4, .int .i64 a0_5, .int .i64 a0_6, .int .i64 a0_7], .int .i64 a1, .int .i64 a2, .agg #[.int .i64 a3_0, .int .i64 a3_1, .int .i64 a3_2, .int .i64 a3_3, .int .i64 a3_4, .int .i64 a3_5]] w fun e w' => e = .returned (.bool r) ∧ Below w.heap.size w w' := by
 have hu23 := Try.underlying23
 have hu24 := Try.underlying24
 have hu30 := Try.underlying30
 have HB := bA (Below.refl w.heap.size w)
 have H : ((apogeelaw18_Held.f a0_0 a0_1 a0_2 a0_3 a0_4 a0_5 a0_6 a0_7).bind fun bt621 => ((impact_Box.f k bt621.1 bt621.2.1 bt621.2.2.1 bt621.2.2.2.1 bt621.2.2.2.2.1 bt621.2.2.2.2.2.1 bt621.2.2.2.2.2.2.1 bt621.2.2.2.2.2.2.2 (wrap64 (1 + (wrap64 (Int.tmod (IntKind.u64.wrap (a1)) 100)))) (Go.bits .and .i64 a2 1023)).bind fun bt629 => ((apogeelaw18_awake.f k).bind fun t635 => (if t635 = true then (apogeelaw18_ImpactSure.j0 k (wrap64 (1 + (wrap64 (Int.tmod (IntKind.u64.wrap (a1)) 100)))) (Go.bits .and .i64 a2 1023) (!bt629.2.2.2.2) bt621.1 bt621.2.1 bt621.2.2.1 bt621.2.2.2.1 bt621.2.2.2.2.1 bt621.2.2.2.2.2.1 bt621.2.2.2.2.2.2.1 bt621.2.2.2.2.2.2.2 a3_0 a3_1 a3_2 a3_3 a3_4 a3_5 bt629.1 bt629.2.1 bt629.2.2.1 bt629.2.2.2.1) else (apogeelaw18_ImpactSure.j0 k (wrap64 (1 + (wrap64 (Int.tmod (IntKind.u64.wrap (a1)) 100)))) (Go.bits .and .i64 a2 1023) true bt621.1 bt621.2.1 bt621.2.2.1 bt621.2.2.2.1 bt621.2.2.2.2.1 bt621.2.2.2.2.2.1 bt621.2.2.2.2.2.2.1 bt621.2.2.2.2.2.2.2 a3_0 a3_1 a3_2 a3_3 a3_4 a3_5 bt629.1 bt629.2.1 bt629.2.2.1 bt629.2.2.2.1))))) = some r := h
 clear h
 replace H := Option.bind_eq_some_iff.mp H
 obtain ⟨⟨t621, t622, t623, t624, t625, t626, t627, t628⟩, A50, H⟩ := H
 replace H : ((impact_Box.f k t621 t622 t623 t624 t625 t626 t627 t628 (wrap64 (1 + (wrap64 (Int.tmod (IntKind.u64.wrap (a1)) 100)))) (Go.bits .and .i64 a2 1023)).bind fun bt629 => ((apogeelaw18_awake.f k).bind fun t635 => (if t635 = true then (apogeelaw18_ImpactSure.j0 k (wrap64 (1 + (wrap64 (Int.tmod (IntKind.u64.wrap (a1)) 100)))) (Go.bits .and .i64 a2 1023) (!bt629.2.2.2.2) t621 t622 t623 t624 t625 t626 t627 t628 a3_0 a3_1 a3_2 a3_3 a3_4 a3_5 bt629.1 bt629.2.1 bt629.2.2.1 bt629.2.2.2.1) else (apogeelaw18_ImpactSure.j0 k (wrap64 (1 + (wrap64 (Int.tmod (IntKind.u64.wrap (a1)) 100)))) (Go.bits .and .i64 a2 1023) true t621 t622 t623 t624 t625 t626 t627 t628 a3_0 a3_1 a3_2 a3_3 a3_4 a3_5 bt629.1 bt629.2.1 bt629.2.2.1 bt629.2.2.2.1)))) = some r := H
 have A5 := bA A50
 clear A50
 replace H := Option.bind_eq_some_iff.mp H
 obtain ⟨⟨t629, t630, t631, t632, t633⟩, A60, H⟩ := H
 replace H : ((apogeelaw18_awake.f k).bind fun t635 => (if t635 = true then (apogeelaw18_ImpactSure.j0 k (wrap64 (1 + (wrap64 (Int.tmod (IntKind.u64.wrap (a1)) 100)))) (Go.bits .and .i64 a2 1023) (!t633) t621 t622 t623 t624 t625 t626 t627 t628 a3_0 a3_1 a3_2 a3_3 a3_4 a3_5 t629 t630 t631 t632) else (apogeelaw18_ImpactSure.j0 k (wrap64 (1 + (wrap64 (Int.tmod (IntKind.u64.wrap (a1)) 100)))) (Go.bits .and .i64 a2 1023) true t621 t622 t623 t624 t625 t626 t627 t628 a3_0 a3_1 a3_2 a3_3 a3_4 a3_5 t629 t630 t631 t632))) = some r := H
 have A6 := bA A60
 clear A60
 have HC7 := bA H
 clear H
 go_enter Try.func3, Try.ntmps3
 go_upto_region 3 with (first | ((with_reducible refine gate_dst (N := 4) rfl ?_); refine bE (N := 4) (cs := #[.int .i64 a0_0, .int .i64 a0_1, .int .i64 a0_2, .int .i64 a0_3, .int .i64 a0_4, .int .i64 a0_5, .int .i64 a0_6, .int .i64 a0_7]) (t := 23) ?_; intro gb619 hg w8 hbox hb; have n0_ := bA (bS hb); have n1_ := bA (hbox); have n2_ := bA (bZ hg); have n3_ := bA (bZ hg); clear HB; have HB := n0_; have BK619 := n1_; have GW619 := n2_; have GE619 := n3_; clear n0_ n1_ n2_ n3_; clear hb hbox hg) | ((with_reducible refine gate_dst (N := 7) rfl ?_); refine bE (N := 7) (cs := #[.int .i64 a3_0, .int .i64 a3_1, .int .i64 a3_2, .int .i64 a3_3, .int .i64 a3_4, .int .i64 a3_5]) (t := 24) ?_; intro gb620 hg w9 hbox hb; have n0_ := bA (bB BK619 hb); have n1_ := bA (bS hb); have n2_ := bA (hbox); have n3_ := bA (bZ hg); have n4_ := bA (bZ hg); have n5_ := bA (bL BK619 hg); have n6_ := bA (bG BK619 hg); clear BK619; clear HB; have BK619 := n0_; have HB := n1_; have BK620 := n2_; have GW620 := n3_; have GE620 := n4_; have NB619_620 := n5_; have NB620_619 := n6_; clear n0_ n1_ n2_ n3_ n4_ n5_ n6_; clear hb hbox hg; have hnb10 := NB619_620.out; have hnc10 := NB620_619.out; obtain ⟨hcz11_0, hcz11_1, hcz11_2, hcz11_3, hcz11_4, hcz11_5, hcz11_6, hcz11_7, hfz11_0, hfz11_1, hfz11_2, hfz11_3, hfz11_4, hfz11_5, hfz11_6, hfz11_7⟩ := bc8 BK619) | ((first | ((with_reducible refine gate_callee (f := 6) rfl ?_); refine bC (some 14) Try.func6 #[.agg #[.int .i64 a0_0, .int .i64 a0_1, .int .i64 a0_2, .int .i64 a0_3, .int .i64 a0_4, .int .i64 a0_5, .int .i64 a0_6, .int .i64 a0_7]] ?_) | go_at_call 6); (with_reducible refine (apogeelaw18_Held.calls a0_0 a0_1 a0_2 a0_3 a0_4 a0_5 a0_6 a0_7 t621 t622 t623 t624 t625 t626 t627 t628 _ A5.out).mono ?_); rintro e w12 ⟨rfl, hb⟩; (first | refine ⟨_, rfl, ?_⟩ | skip); have n0_ := bA (bB BK619 hb); have n1_ := bA (bB BK620 hb); have n2_ := bA (bS hb); clear BK619; clear BK620; clear HB; have BK619 := n0_; have BK620 := n1_; have HB := n2_; clear n0_ n1_ n2_; (try clear hb); obtain ⟨hcz13_0, hcz13_1, hcz13_2, hcz13_3, hcz13_4, hcz13_5, hcz13_6, hcz13_7, hfz13_0, hfz13_1, hfz13_2, hfz13_3, hfz13_4, hfz13_5, hfz13_6, hfz13_7⟩ := bc8 BK619) | ((first | ((with_reducible refine gate_callee (f := 7) rfl ?_); refine bC (some 26) Try.func7 #[.agg #[.int .i64 t621, .int .i64 t622, .int .i64 t623, .int .i64 t624, .int .i64 t625, .int .i64 t626, .int .i64 t627, .int .i64 t628], .int .i64 (wrap64 (1 + (wrap64 (Int.tmod (IntKind.u64.wrap (a1)) 100)))), .int .i64 (Go.bits .and .i64 a2 1023)] ?_) | go_at_call 7); (with_reducible refine (impact_Box.calls k t621 t622 t623 t624 t625 t626 t627 t628 (wrap64 (1 + (wrap64 (Int.tmod (IntKind.u64.wrap (a1)) 100)))) (Go.bits .and .i64 a2 1023) t629 t630 t631 t632 t633 _ A6.out).mono ?_); rintro e w14 ⟨rfl, hb⟩; (first | refine ⟨_, rfl, ?_⟩ | skip); have n0_ := bA (blk_below (g := gb619) (o := .cells #[.int .i64 t621, .int .i64 t622, .int .i64 t623, .int .i64 t624, .int .i64 t625, .int .i64 t626, .int .i64 t627, .int .i64 t628] 23 (0, 0)) (by (with_reducible repeat (first | refine blk_drewN ?_ _ | refine blk_drew ?_ | refine blk_alloc ?_ _)); refine blk_put (cs := #[.int .i64 t621, .int .i64 t622, .int .i64 t623, .int .i64 t624, .int .i64 t625, .int .i64 t626, .int .i64 t627, .int .i64 a0_7]) ?_ 7 _ rfl; (with_reducible repeat (first | refine blk_drewN ?_ _ | refine blk_drew ?_ | refine blk_alloc ?_ _)); refine blk_put (cs := #[.int .i64 t621, .int .i64 t622, .int .i64 t623, .int .i64 t624, .int .i64 t625, .int .i64 t626, .int .i64 a0_6, .int .i64 a0_7]) ?_ 6 _ rfl; (with_reducible repeat (first | refine blk_drewN ?_ _ | refine blk_drew ?_ | refine blk_alloc ?_ _)); refine blk_put (cs := #[.int .i64 t621, .int .i64 t622, .int .i64 t623, .int .i64 t624, .int .i64 t625, .int .i64 a0_5, .int .i64 a0_6, .int .i64 a0_7]) ?_ 5 _ rfl; (with_reducible repeat (first | refine blk_drewN ?_ _ | refine blk_drew ?_ | refine blk_alloc ?_ _)); refine blk_put (cs := #[.int .i64 t621, .int .i64 t622, .int .i64 t623, .int .i64 t624, .int .i64 a0_4, .int .i64 a0_5, .int .i64 a0_6, .int .i64 a0_7]) ?_ 4 _ rfl; (with_reducible repeat (first | refine blk_drewN ?_ _ | refine blk_drew ?_ | refine blk_alloc ?_ _)); refine blk_put (cs := #[.int .i64 t621, .int .i64 t622, .int .i64 t623, .int .i64 a0_3, .int .i64 a0_4, .int .i64 a0_5, .int .i64 a0_6, .int .i64 a0_7]) ?_ 3 _ rfl; (with_reducible repeat (first | refine blk_drewN ?_ _ | refine blk_drew ?_ | refine blk_alloc ?_ _)); refine blk_put (cs := #[.int .i64 t621, .int .i64 t622, .int .i64 a0_2, .int .i64 a0_3, .int .i64 a0_4, .int .i64 a0_5, .int .i64 a0_6, .int .i64 a0_7]) ?_ 2 _ rfl; (with_reducible repeat (first | refine blk_drewN ?_ _ | refine blk_drew ?_ | refine blk_alloc ?_ _)); refine blk_put (cs := #[.int .i64 t621, .int .i64 a0_1, .int .i64 a0_2, .int .i64 a0_3, .int .i64 a0_4, .int .i64 a0_5, .int .i64 a0_6, .int .i64 a0_7]) ?_ 1 _ rfl; (with_reducible repeat (first | refine blk_drewN ?_ _ | refine blk_drew ?_ | refine blk_alloc ?_ _)); refine blk_put (cs := #[.int .i64 a0_0, .int .i64 a0_1, .int .i64 a0_2, .int .i64 a0_3, .int .i64 a0_4, .int .i64 a0_5, .int .i64 a0_6, .int .i64 a0_7]) ?_ 0 _ rfl; (with_reducible repeat (first | refine blk_drewN ?_ _ | refine blk_drew ?_ | refine blk_alloc ?_ _)); exact BK619.out) hb); have n1_ := bA (blk_below (g := gb620) (o := .cells #[.int .i64 a3_0, .int .i64 a3_1, .int .i64 a3_2, .int .i64 a3_3, .int .i64 a3_4, .int .i64 a3_5] 24 (0, 0)) (by (repeat ((with_reducible repeat (first | refine blk_drewN ?_ _ | refine blk_drew ?_ | refine blk_alloc ?_ _)); refine blk_far ?_ NB620_619.out _)); (with_reducible repeat (first | refine blk_drewN ?_ _ | refine blk_drew ?_ | refine blk_alloc ?_ _)); exact BK620.out) hb); have n2_ := bA (bS hb); clear BK619; clear BK620; clear HB; have BK619 := n0_; have BK620 := n1_; have HB := n2_; clear n0_ n1_ n2_; (try clear hb)) | ((with_reducible refine gate_dst (N := 9) rfl ?_); refine bE (N := 9) (cs := #[.int .i64 0, .int .i64 0, .int .i64 0, .int .i64 0]) (t := 30) ?_; intro gb634 hg w15 hbox hb; have n0_ := bA (bB BK619 hb); have n1_ := bA (bB BK620 hb); have n2_ := bA (bS hb); have n3_ := bA (hbox); have n4_ := bA (bZ hg); have n5_ := bA (bZ hg); have n6_ := bA (bL BK619 hg); have n7_ := bA (bG BK619 hg); have n8_ := bA (bL BK620 hg); have n9_ := bA (bG BK620 hg); clear BK619; clear BK620; clear HB; have BK619 := n0_; have BK620 := n1_; have HB := n2_; have BK634 := n3_; have GW634 := n4_; have GE634 := n5_; have NB619_634 := n6_; have NB634_619 := n7_; have NB620_634 := n8_; have NB634_620 := n9_; clear n0_ n1_ n2_ n3_ n4_ n5_ n6_ n7_ n8_ n9_; clear hb hbox hg; have hnb16 := NB634_619.out; have hnc16 := NB619_634.out; have hnb17 := NB634_620.out; have hnc17 := NB620_634.out; obtain ⟨hcz18_0, hcz18_1, hcz18_2, hcz18_3, hfz18_0, hfz18_1, hfz18_2, hfz18_3⟩ := bc4 BK634))
 (try simp only [Act.put, List.setIfInBounds_toArray, List.set_cons_zero, List.set_cons_succ])
 go_cut [34] (fun v34 wc => ∃ (kq : Nat) (x34_6 : Bool), v34 = .bool x34_6 ∧ Aside0 (apogeelaw18_ImpactSure.j0 kq (wrap64 (1 + (wrap64 (Int.tmod (IntKind.u64.wrap (a1)) 100)))) (Go.bits .and .i64 a2 1023) x34_6 t621 t622 t623 t624 t625 t626 t627 t628 a3_0 a3_1 a3_2 a3_3 a3_4 a3_5 t629 t630 t631 t632 = some r) ∧ Aside0 (kq ≤ k) ∧ Aside0 (wc.heap[gb619]? = some (.cells #[.int .i64 t621, .int .i64 t622, .int .i64 t623, .int .i64 t624, .int .i64 t625, .int .i64 t626, .int .i64 t627, .int .i64 t628] 23 (0, 0))) ∧ Aside0 (wc.heap[gb620]? = some (.cells #[.int .i64 a3_0, .int .i64 a3_1, .int .i64 a3_2, .int .i64 a3_3, .int .i64 a3_4, .int .i64 a3_5] 24 (0, 0))) ∧ Aside0 (wc.heap[gb634]? = some (.cells #[.int .i64 t629, .int .i64 t630, .int .i64 t631, .int .i64 t632] 30 (0, 0))) ∧ Aside0 (Below w.heap.size w wc))
 case first =>
  have H := HC7.out
  clear HC7
  replace H := Option.bind_eq_some_iff.mp H
  obtain ⟨t635, A190, H⟩ := H
  have A19 := bA A190
  clear A190
  by_cases c20 : t635 = true
  subst c20
  rw [if_pos rfl] at H
  have H' := bA H
  clear H
  rotate_left
  replace c20 := Bool.eq_false_iff.mpr c20
  subst c20
  rw [if_neg bn] at H
  have H' := bA H
  clear H
  rotate_left
  all_goals go_wp2_with (first | ((first | ((with_reducible refine gate_callee (f := 8) rfl ?_); refine bC (some 29) Try.func8 #[] ?_) | go_at_call 8); (with_reducible refine (apogeelaw18_awake.calls k  true _ A19.out).mono ?_); rintro e wz0 ⟨rfl, hb⟩; (first | refine ⟨_, rfl, ?_⟩ | skip); replace BK619 := bA (blk_below (g := gb619) (o := .cells #[.int .i64 t621, .int .i64 t622, .int .i64 t623, .int .i64 t624, .int .i64 t625, .int .i64 t626, .int .i64 t627, .int .i64 t628] 23 (0, 0)) (by (repeat ((with_reducible repeat (first | refine blk_drewN ?_ _ | refine blk_drew ?_ | refine blk_alloc ?_ _)); refine blk_far ?_ NB619_634.out _)); (with_reducible repeat (first | refine blk_drewN ?_ _ | refine blk_drew ?_ | refine blk_alloc ?_ _)); exact BK619.out) hb); replace BK620 := bA (blk_below (g := gb620) (o := .cells #[.int .i64 a3_0, .int .i64 a3_1, .int .i64 a3_2, .int .i64 a3_3, .int .i64 a3_4, .int .i64 a3_5] 24 (0, 0)) (by (repeat ((with_reducible repeat (first | refine blk_drewN ?_ _ | refine blk_drew ?_ | refine blk_alloc ?_ _)); refine blk_far ?_ NB620_634.out _)); (with_reducible repeat (first | refine blk_drewN ?_ _ | refine blk_drew ?_ | refine blk_alloc ?_ _)); exact BK620.out) hb); replace BK634 := bA (blk_below (g := gb634) (o := .cells #[.int .i64 t629, .int .i64 t630, .int .i64 t631, .int .i64 t632] 30 (0, 0)) (by (with_reducible repeat (first | refine blk_drewN ?_ _ | refine blk_drew ?_ | refine blk_alloc ?_ _)); refine blk_put (cs := #[.int .i64 t629, .int .i64 t630, .int .i64 t631, .int .i64 0]) ?_ 3 _ rfl; (with_reducible repeat (first | refine blk_drewN ?_ _ | refine blk_drew ?_ | refine blk_alloc ?_ _)); refine blk_put (cs := #[.int .i64 t629, .int .i64 t630, .int .i64 0, .int .i64 0]) ?_ 2 _ rfl; (with_reducible repeat (first | refine blk_drewN ?_ _ | refine blk_drew ?_ | refine blk_alloc ?_ _)); refine blk_put (cs := #[.int .i64 t629, .int .i64 0, .int .i64 0, .int .i64 0]) ?_ 1 _ rfl; (with_reducible repeat (first | refine blk_drewN ?_ _ | refine blk_drew ?_ | refine blk_alloc ?_ _)); refine blk_put (cs := #[.int .i64 0, .int .i64 0, .int .i64 0, .int .i64 0]) ?_ 0 _ rfl; (with_reducible repeat (first | refine blk_drewN ?_ _ | refine blk_drew ?_ | refine blk_alloc ?_ _)); exact BK634.out) hb); replace HB := bA (bS hb); (try clear hb)) | ((first | ((with_reducible refine gate_callee (f := 8) rfl ?_); refine bC (some 29) Try.func8 #[] ?_) | go_at_call 8); (with_reducible refine (apogeelaw18_awake.calls k  false _ A19.out).mono ?_); rintro e wz0 ⟨rfl, hb⟩; (first | refine ⟨_, rfl, ?_⟩ | skip); replace BK619 := bA (blk_below (g := gb619) (o := .cells #[.int .i64 t621, .int .i64 t622, .int .i64 t623, .int .i64 t624, .int .i64 t625, .int .i64 t626, .int .i64 t627, .int .i64 t628] 23 (0, 0)) (by (repeat ((with_reducible repeat (first | refine blk_drewN ?_ _ | refine blk_drew ?_ | refine blk_alloc ?_ _)); refine blk_far ?_ NB619_634.out _)); (with_reducible repeat (first | refine blk_drewN ?_ _ | refine blk_drew ?_ | refine blk_alloc ?_ _)); exact BK619.out) hb); replace BK620 := bA (blk_below (g := gb620) (o := .cells #[.int .i64 a3_0, .int .i64 a3_1, .int .i64 a3_2, .int .i64 a3_3, .int .i64 a3_4, .int .i64 a3_5] 24 (0, 0)) (by (repeat ((with_reducible repeat (first | refine blk_drewN ?_ _ | refine blk_drew ?_ | refine blk_alloc ?_ _)); refine blk_far ?_ NB620_634.out _)); (with_reducible repeat (first | refine blk_drewN ?_ _ | refine blk_drew ?_ | refine blk_alloc ?_ _)); exact BK620.out) hb); replace BK634 := bA (blk_below (g := gb634) (o := .cells #[.int .i64 t629, .int .i64 t630, .int .i64 t631, .int .i64 t632] 30 (0, 0)) (by (with_reducible repeat (first | refine blk_drewN ?_ _ | refine blk_drew ?_ | refine blk_alloc ?_ _)); refine blk_put (cs := #[.int .i64 t629, .int .i64 t630, .int .i64 t631, .int .i64 0]) ?_ 3 _ rfl; (with_reducible repeat (first | refine blk_drewN ?_ _ | refine blk_drew ?_ | refine blk_alloc ?_ _)); refine blk_put (cs := #[.int .i64 t629, .int .i64 t630, .int .i64 0, .int .i64 0]) ?_ 2 _ rfl; (with_reducible repeat (first | refine blk_drewN ?_ _ | refine blk_drew ?_ | refine blk_alloc ?_ _)); refine blk_put (cs := #[.int .i64 t629, .int .i64 0, .int .i64 0, .int .i64 0]) ?_ 1 _ rfl; (with_reducible repeat (first | refine blk_drewN ?_ _ | refine blk_drew ?_ | refine blk_alloc ?_ _)); refine blk_put (cs := #[.int .i64 0, .int .i64 0, .int .i64 0, .int .i64 0]) ?_ 0 _ rfl; (with_reducible repeat (first | refine blk_drewN ?_ _ | refine blk_drew ?_ | refine blk_alloc ?_ _)); exact BK634.out) hb); replace HB := bA (bS hb); (try clear hb)))
  ·go_meet
   case rel => exact ⟨_, (!t633), bs, H', ⟨by first | omega | exact Nat.le_refl _⟩, ⟨by (with_reducible repeat (first | refine blk_drewN ?_ _ | refine blk_drew ?_ | refine blk_alloc ?_ _)); exact BK619.out⟩, ⟨by (with_reducible repeat (first | refine blk_drewN ?_ _ | refine blk_drew ?_ | refine blk_alloc ?_ _)); exact BK620.out⟩, ⟨by (with_reducible repeat (first | refine blk_drewN ?_ _ | refine blk_drew ?_ | refine blk_alloc ?_ _)); exact BK634.out⟩, ⟨bX⟩⟩
  go_meet
  case rel => exact ⟨_, (true), bs, H', ⟨by first | omega | exact Nat.le_refl _⟩, ⟨by (with_reducible repeat (first | refine blk_drewN ?_ _ | refine blk_drew ?_ | refine blk_alloc ?_ _)); exact BK619.out⟩, ⟨by (with_reducible repeat (first | refine blk_drewN ?_ _ | refine blk_drew ?_ | refine blk_alloc ?_ _)); exact BK620.out⟩, ⟨by (with_reducible repeat (first | refine blk_drewN ?_ _ | refine blk_drew ?_ | refine blk_alloc ?_ _)); exact BK634.out⟩, ⟨bX⟩⟩
 clear HC7
 try clear c1
 try clear c2
 try clear p2
 try clear c3
 try clear c6
 try clear p6
 try clear c7
 try clear c8
 try clear c10
 try clear c16
 try clear c17
 try clear c20
 try clear hcz11_0
 try clear hcz11_1
 try clear hcz11_2
 try clear hcz11_3
 try clear hcz11_4
 try clear hcz11_5
 try clear hcz11_6
 try clear hcz11_7
 try clear hcz13_0
 try clear hcz13_1
 try clear hcz13_2
 try clear hcz13_3
 try clear hcz13_4
 try clear hcz13_5
 try clear hcz13_6
 try clear hcz13_7
 try clear hcz18_0
 try clear hcz18_1
 try clear hcz18_2
 try clear hcz18_3
 try clear hfz11_0
 try clear hfz11_1
 try clear hfz11_2
 try clear hfz11_3
 try clear hfz11_4
 try clear hfz11_5
 try clear hfz11_6
 try clear hfz11_7
 try clear hfz13_0
 try clear hfz13_1
 try clear hfz13_2
 try clear hfz13_3
 try clear hfz13_4
 try clear hfz13_5
 try clear hfz13_6
 try clear hfz13_7
 try clear hfz18_0
 try clear hfz18_1
 try clear hfz18_2
 try clear hfz18_3
 obtain ⟨kq, x34_6, rfl, HA, HJ6, BK619, BK620, BK634, HB⟩ := hcut
 cases kq with
 | zero => exact absurd HA.out (by simp [apogeelaw18_ImpactSure.j0])
 | succ kj6 =>
  have H := HA.out
  clear HA
  simp only [apogeelaw18_ImpactSure.j0] at H
  by_cases c23 : x34_6 = true
  ·subst c23
   rw [if_pos rfl] at H
   exact absurd H (by simp)
  replace c23 := Bool.eq_false_iff.mpr c23
  subst c23
  rw [if_neg bn] at H
  replace H := Option.bind_eq_some_iff.mp H
  obtain ⟨⟨t636, t637, t638, t639, t640, t641, t642, t643⟩, A240, H⟩ := H
  replace H : (if t640 < 0 then (some true) else ((apogeeref17_Time.f kj6 t640 t643 (wrap64 (1 + (wrap64 (Int.tmod (IntKind.u64.wrap (a1)) 100))))).bind fun t645 => ((apogeeref17_Above.f t640 t643 (wrap64 (1 + (wrap64 (Int.tmod (IntKind.u64.wrap (a1)) 100)))) t645).bind fun t646 => (if t646 < 0 then (apogeelaw18_ImpactSure.j1 kj6 t645 true t629 t630 t631 t632 t636 t637 t638 t639 t640 t641 t642 t643) else ((apogeeref17_Above.f t640 t643 (wrap64 (1 + (wrap64 (Int.tmod (IntKind.u64.wrap (a1)) 100)))) (wrap64 (t645 + 2))).bind fun t647 => (apogeelaw18_ImpactSure.j1 kj6 t645 (decide (t647 ≥ 0)) t629 t630 t631 t632 t636 t637 t638 t639 t640 t641 t642 t643)))))) = some r := H
  have A24 := bA A240
  clear A240
  by_cases c25 : t640 < 0
  ·rw [if_pos c25] at H
   have c25b0 : decide (t640 < 0) = true := decide_eq_true c25
   clear c25
   obtain rfl := Option.some.inj H
   have hnb26 := NB619_620.out
   have hnc26 := NB620_619.out
   have hnb27 := NB619_634.out
   have hnc27 := NB634_619.out
   obtain ⟨hcz28_0, hcz28_1, hcz28_2, hcz28_3, hcz28_4, hcz28_5, hcz28_6, hcz28_7, hfz28_0, hfz28_1, hfz28_2, hfz28_3, hfz28_4, hfz28_5, hfz28_6, hfz28_7⟩ := bc8 BK619
   have hnb29 := NB620_634.out
   have hnc29 := NB634_620.out
   obtain ⟨hcz30_0, hcz30_1, hcz30_2, hcz30_3, hcz30_4, hcz30_5, hfz30_0, hfz30_1, hfz30_2, hfz30_3, hfz30_4, hfz30_5⟩ := bc6 BK620
   go_wp2_with (first | ((first | ((with_reducible refine gate_callee (f := 9) rfl ?_); refine bC (some 38) Try.func9 #[.agg #[.int .i64 t621, .int .i64 t622, .int .i64 t623, .int .i64 t624, .int .i64 t625, .int .i64 t626, .int .i64 t627, .int .i64 t628], .agg #[.int .i64 a3_0, .int .i64 a3_1, .int .i64 a3_2, .int .i64 a3_3, .int .i64 a3_4, .int .i64 a3_5], .int .i64 (Go.bits .and .i64 a2 1023)] ?_) | go_at_call 9); (with_reducible refine (apogeelaw18_Off.calls t621 t622 t623 t624 t625 t626 t627 t628 a3_0 a3_1 a3_2 a3_3 a3_4 a3_5 (Go.bits .and .i64 a2 1023) t636 t637 t638 t639 t640 t641 t642 t643 _ A24.out).mono ?_); rintro e w31 ⟨rfl, hb⟩; (first | refine ⟨_, rfl, ?_⟩ | skip); replace BK619 := bA (bB BK619 hb); replace BK620 := bA (bB BK620 hb); replace BK634 := bA (bB BK634 hb); replace HB := bA (bS hb); (try clear hb)) | ((with_reducible refine gate_dst (N := 11) rfl ?_); refine bE (N := 11) (cs := #[.int .i64 0, .int .i64 0, .int .i64 0, .int .i64 0, .int .i64 0, .int .i64 0, .int .i64 0, .int .i64 0]) (t := 23) ?_; intro gb644 hg w32 hbox hb; have BK644 := bA (hbox); have GW644 := bA (bZ hg); have GE644 := bA (bZ hg); have NB619_644 := bA (bL BK619 hg); have NB644_619 := bA (bG BK619 hg); have NB620_644 := bA (bL BK620 hg); have NB644_620 := bA (bG BK620 hg); have NB634_644 := bA (bL BK634 hg); have NB644_634 := bA (bG BK634 hg); replace BK619 := bA (bB BK619 hb); replace BK620 := bA (bB BK620 hb); replace BK634 := bA (bB BK634 hb); replace HB := bA (bS hb); clear hb hbox hg; have hnb33 := NB644_619.out; have hnc33 := NB619_644.out; have hnb34 := NB644_620.out; have hnc34 := NB620_644.out; have hnb35 := NB644_634.out; have hnc35 := NB634_644.out; obtain ⟨hcz36_0, hcz36_1, hcz36_2, hcz36_3, hcz36_4, hcz36_5, hcz36_6, hcz36_7, hfz36_0, hfz36_1, hfz36_2, hfz36_3, hfz36_4, hfz36_5, hfz36_6, hfz36_7⟩ := bc8 BK644))
   go_ret
   exact bF
  rw [if_neg c25] at H
  have c25b0 : decide (t640 < 0) = false := decide_eq_false c25
  clear c25
  replace H := Option.bind_eq_some_iff.mp H
  obtain ⟨t645, A370, H⟩ := H
  have A37 := bA A370
  clear A370
  have HC38 := bA H
  clear H
  have hnb39 := NB619_620.out
  have hnc39 := NB620_619.out
  have hnb40 := NB619_634.out
  have hnc40 := NB634_619.out
  obtain ⟨hcz41_0, hcz41_1, hcz41_2, hcz41_3, hcz41_4, hcz41_5, hcz41_6, hcz41_7, hfz41_0, hfz41_1, hfz41_2, hfz41_3, hfz41_4, hfz41_5, hfz41_6, hfz41_7⟩ := bc8 BK619
  have hnb42 := NB620_634.out
  have hnc42 := NB634_620.out
  obtain ⟨hcz43_0, hcz43_1, hcz43_2, hcz43_3, hcz43_4, hcz43_5, hfz43_0, hfz43_1, hfz43_2, hfz43_3, hfz43_4, hfz43_5⟩ := bc6 BK620
  go_upto_region 9 with (first | ((first | ((with_reducible refine gate_callee (f := 9) rfl ?_); refine bC (some 38) Try.func9 #[.agg #[.int .i64 t621, .int .i64 t622, .int .i64 t623, .int .i64 t624, .int .i64 t625, .int .i64 t626, .int .i64 t627, .int .i64 t628], .agg #[.int .i64 a3_0, .int .i64 a3_1, .int .i64 a3_2, .int .i64 a3_3, .int .i64 a3_4, .int .i64 a3_5], .int .i64 (Go.bits .and .i64 a2 1023)] ?_) | go_at_call 9); (with_reducible refine (apogeelaw18_Off.calls t621 t622 t623 t624 t625 t626 t627 t628 a3_0 a3_1 a3_2 a3_3 a3_4 a3_5 (Go.bits .and .i64 a2 1023) t636 t637 t638 t639 t640 t641 t642 t643 _ A24.out).mono ?_); rintro e w44 ⟨rfl, hb⟩; (first | refine ⟨_, rfl, ?_⟩ | skip); have n0_ := bA (bB BK619 hb); have n1_ := bA (bB BK620 hb); have n2_ := bA (bB BK634 hb); have n3_ := bA (bS hb); clear BK619; clear BK620; clear BK634; clear HB; have BK619 := n0_; have BK620 := n1_; have BK634 := n2_; have HB := n3_; clear n0_ n1_ n2_ n3_; (try clear hb)) | ((with_reducible refine gate_dst (N := 11) rfl ?_); refine bE (N := 11) (cs := #[.int .i64 0, .int .i64 0, .int .i64 0, .int .i64 0, .int .i64 0, .int .i64 0, .int .i64 0, .int .i64 0]) (t := 23) ?_; intro gb644 hg w45 hbox hb; have n0_ := bA (bB BK619 hb); have n1_ := bA (bB BK620 hb); have n2_ := bA (bB BK634 hb); have n3_ := bA (bS hb); have n4_ := bA (hbox); have n5_ := bA (bZ hg); have n6_ := bA (bZ hg); have n7_ := bA (bL BK619 hg); have n8_ := bA (bG BK619 hg); have n9_ := bA (bL BK620 hg); have n10_ := bA (bG BK620 hg); have n11_ := bA (bL BK634 hg); have n12_ := bA (bG BK634 hg); clear BK619; clear BK620; clear BK634; clear HB; have BK619 := n0_; have BK620 := n1_; have BK634 := n2_; have HB := n3_; have BK644 := n4_; have GW644 := n5_; have GE644 := n6_; have NB619_644 := n7_; have NB644_619 := n8_; have NB620_644 := n9_; have NB644_620 := n10_; have NB634_644 := n11_; have NB644_634 := n12_; clear n0_ n1_ n2_ n3_ n4_ n5_ n6_ n7_ n8_ n9_ n10_ n11_ n12_; clear hb hbox hg; have hnb46 := NB644_619.out; have hnc46 := NB619_644.out; have hnb47 := NB644_620.out; have hnc47 := NB620_644.out; have hnb48 := NB644_634.out; have hnc48 := NB634_644.out; obtain ⟨hcz49_0, hcz49_1, hcz49_2, hcz49_3, hcz49_4, hcz49_5, hcz49_6, hcz49_7, hfz49_0, hfz49_1, hfz49_2, hfz49_3, hfz49_4, hfz49_5, hfz49_6, hfz49_7⟩ := bc8 BK644) | ((first | ((with_reducible refine gate_callee (f := 10) rfl ?_); refine bC (some 47) Try.func10 #[.int .i64 t640, .int .i64 t643, .int .i64 (wrap64 (1 + (wrap64 (Int.tmod (IntKind.u64.wrap (a1)) 100))))] ?_) | go_at_call 10); (with_reducible refine (apogeeref17_Time.calls kj6 t640 t643 (wrap64 (1 + (wrap64 (Int.tmod (IntKind.u64.wrap (a1)) 100)))) t645 _ A37.out).mono ?_); rintro e w' ⟨rfl, ⟨nd, rfl⟩⟩; (first | refine ⟨_, rfl, ?_⟩ | skip)))
  (try simp only [Act.put, List.setIfInBounds_toArray, List.set_cons_zero, List.set_cons_succ])
  go_cut [66] (fun v66 wc => ∃ (kq : Nat) (x66_37 : Bool), v66 = .bool x66_37 ∧ Aside0 (apogeelaw18_ImpactSure.j1 kq t645 x66_37 t629 t630 t631 t632 t636 t637 t638 t639 t640 t641 t642 t643 = some r) ∧ Aside0 (kq ≤ kj6) ∧ Aside0 (wc.heap[gb619]? = some (.cells #[.int .i64 t621, .int .i64 t622, .int .i64 t623, .int .i64 t624, .int .i64 t625, .int .i64 t626, .int .i64 t627, .int .i64 t628] 23 (0, 0))) ∧ Aside0 (wc.heap[gb620]? = some (.cells #[.int .i64 a3_0, .int .i64 a3_1, .int .i64 a3_2, .int .i64 a3_3, .int .i64 a3_4, .int .i64 a3_5] 24 (0, 0))) ∧ Aside0 (wc.heap[gb634]? = some (.cells #[.int .i64 t629, .int .i64 t630, .int .i64 t631, .int .i64 t632] 30 (0, 0))) ∧ Aside0 (wc.heap[gb644]? = some (.cells #[.int .i64 t636, .int .i64 t637, .int .i64 t638, .int .i64 t639, .int .i64 t640, .int .i64 t641, .int .i64 t642, .int .i64 t643] 23 (0, 0))) ∧ Aside0 (Below w.heap.size w wc))
  case first =>
   have H := HC38.out
   clear HC38
   replace H := Option.bind_eq_some_iff.mp H
   obtain ⟨t646, A500, H⟩ := H
   have A50 := bA A500
   clear A500
   by_cases c51 : t646 < 0
   rw [if_pos c51] at H
   have c51b0 : decide (t646 < 0) = true := decide_eq_true c51
   clear c51
   (first | rw [c51b0] | (simp only [i64_w, i32_w]; rw [c51b0]) | skip)
   have H' := bA H
   clear H
   have hnb52 := NB644_619.out
   have hnc52 := NB619_644.out
   have hnb53 := NB644_620.out
   have hnc53 := NB620_644.out
   have hnb54 := NB644_634.out
   have hnc54 := NB634_644.out
   obtain ⟨hcz55_0, hcz55_1, hcz55_2, hcz55_3, hcz55_4, hcz55_5, hcz55_6, hcz55_7, hfz55_0, hfz55_1, hfz55_2, hfz55_3, hfz55_4, hfz55_5, hfz55_6, hfz55_7⟩ := bc8 BK644
   rotate_left
   rw [if_neg c51] at H
   have c51b0 : decide (t646 < 0) = false := decide_eq_false c51
   clear c51
   (first | rw [c51b0] | (simp only [i64_w, i32_w]; rw [c51b0]) | skip)
   replace H := Option.bind_eq_some_iff.mp H
   obtain ⟨t647, A560, H⟩ := H
   have A56 := bA A560
   clear A560
   have H' := bA H
   clear H
   have hnb57 := NB644_619.out
   have hnc57 := NB619_644.out
   have hnb58 := NB644_620.out
   have hnc58 := NB620_644.out
   have hnb59 := NB644_634.out
   have hnc59 := NB634_644.out
   obtain ⟨hcz60_0, hcz60_1, hcz60_2, hcz60_3, hcz60_4, hcz60_5, hcz60_6, hcz60_7, hfz60_0, hfz60_1, hfz60_2, hfz60_3, hfz60_4, hfz60_5, hfz60_6, hfz60_7⟩ := bc8 BK644
   rotate_left
   all_goals go_wp2_with (first | ((first | ((with_reducible refine gate_callee (f := 11) rfl ?_); refine bC (some 54) Try.func11 #[.int .i64 t640, .int .i64 t643, .int .i64 (wrap64 (1 + (wrap64 (Int.tmod (IntKind.u64.wrap (a1)) 100)))), .int .i64 t645] ?_) | go_at_call 11); (with_reducible refine (apogeeref17_Above.calls t640 t643 (wrap64 (1 + (wrap64 (Int.tmod (IntKind.u64.wrap (a1)) 100)))) t645 t646 _ A50.out).mono ?_); rintro e w' ⟨rfl, ⟨nd, rfl⟩⟩; (first | refine ⟨_, rfl, ?_⟩ | skip)) | (go_at_call 11; (with_reducible refine (apogeeref17_Above.calls t640 t643 (wrap64 (1 + (wrap64 (Int.tmod (IntKind.u64.wrap (a1)) 100)))) (wrap64 (t645 + 2)) t647 _ A56.out).mono ?_); rintro e w' ⟨rfl, ⟨nd, rfl⟩⟩))
   ·go_meet
    case rel => exact ⟨_, (true), bs, H', ⟨by have := HJ6.out; first | omega | exact Nat.le_refl _⟩, ⟨by (repeat ((with_reducible repeat (first | refine blk_drewN ?_ _ | refine blk_drew ?_ | refine blk_alloc ?_ _)); refine blk_far ?_ NB619_644.out _)); (with_reducible repeat (first | refine blk_drewN ?_ _ | refine blk_drew ?_ | refine blk_alloc ?_ _)); exact BK619.out⟩, ⟨by (repeat ((with_reducible repeat (first | refine blk_drewN ?_ _ | refine blk_drew ?_ | refine blk_alloc ?_ _)); refine blk_far ?_ NB620_644.out _)); (with_reducible repeat (first | refine blk_drewN ?_ _ | refine blk_drew ?_ | refine blk_alloc ?_ _)); exact BK620.out⟩, ⟨by (repeat ((with_reducible repeat (first | refine blk_drewN ?_ _ | refine blk_drew ?_ | refine blk_alloc ?_ _)); refine blk_far ?_ NB634_644.out _)); (with_reducible repeat (first | refine blk_drewN ?_ _ | refine blk_drew ?_ | refine blk_alloc ?_ _)); exact BK634.out⟩, ⟨by (with_reducible repeat (first | refine blk_drewN ?_ _ | refine blk_drew ?_ | refine blk_alloc ?_ _)); refine blk_put (cs := #[.int .i64 t636, .int .i64 t637, .int .i64 t638, .int .i64 t639, .int .i64 t640, .int .i64 t641, .int .i64 t642, .int .i64 0]) ?_ 7 _ rfl; (with_reducible repeat (first | refine blk_drewN ?_ _ | refine blk_drew ?_ | refine blk_alloc ?_ _)); refine blk_put (cs := #[.int .i64 t636, .int .i64 t637, .int .i64 t638, .int .i64 t639, .int .i64 t640, .int .i64 t641, .int .i64 0, .int .i64 0]) ?_ 6 _ rfl; (with_reducible repeat (first | refine blk_drewN ?_ _ | refine blk_drew ?_ | refine blk_alloc ?_ _)); refine blk_put (cs := #[.int .i64 t636, .int .i64 t637, .int .i64 t638, .int .i64 t639, .int .i64 t640, .int .i64 0, .int .i64 0, .int .i64 0]) ?_ 5 _ rfl; (with_reducible repeat (first | refine blk_drewN ?_ _ | refine blk_drew ?_ | refine blk_alloc ?_ _)); refine blk_put (cs := #[.int .i64 t636, .int .i64 t637, .int .i64 t638, .int .i64 t639, .int .i64 0, .int .i64 0, .int .i64 0, .int .i64 0]) ?_ 4 _ rfl; (with_reducible repeat (first | refine blk_drewN ?_ _ | refine blk_drew ?_ | refine blk_alloc ?_ _)); refine blk_put (cs := #[.int .i64 t636, .int .i64 t637, .int .i64 t638, .int .i64 0, .int .i64 0, .int .i64 0, .int .i64 0, .int .i64 0]) ?_ 3 _ rfl; (with_reducible repeat (first | refine blk_drewN ?_ _ | refine blk_drew ?_ | refine blk_alloc ?_ _)); refine blk_put (cs := #[.int .i64 t636, .int .i64 t637, .int .i64 0, .int .i64 0, .int .i64 0, .int .i64 0, .int .i64 0, .int .i64 0]) ?_ 2 _ rfl; (with_reducible repeat (first | refine blk_drewN ?_ _ | refine blk_drew ?_ | refine blk_alloc ?_ _)); refine blk_put (cs := #[.int .i64 t636, .int .i64 0, .int .i64 0, .int .i64 0, .int .i64 0, .int .i64 0, .int .i64 0, .int .i64 0]) ?_ 1 _ rfl; (with_reducible repeat (first | refine blk_drewN ?_ _ | refine blk_drew ?_ | refine blk_alloc ?_ _)); refine blk_put (cs := #[.int .i64 0, .int .i64 0, .int .i64 0, .int .i64 0, .int .i64 0, .int .i64 0, .int .i64 0, .int .i64 0]) ?_ 0 _ rfl; (with_reducible repeat (first | refine blk_drewN ?_ _ | refine blk_drew ?_ | refine blk_alloc ?_ _)); exact BK644.out⟩, ⟨bX⟩⟩
   go_meet
   case rel => exact ⟨_, (decide (t647 ≥ 0)), bs, H', ⟨by have := HJ6.out; first | omega | exact Nat.le_refl _⟩, ⟨by (repeat ((with_reducible repeat (first | refine blk_drewN ?_ _ | refine blk_drew ?_ | refine blk_alloc ?_ _)); refine blk_far ?_ NB619_644.out _)); (with_reducible repeat (first | refine blk_drewN ?_ _ | refine blk_drew ?_ | refine blk_alloc ?_ _)); exact BK619.out⟩, ⟨by (repeat ((with_reducible repeat (first | refine blk_drewN ?_ _ | refine blk_drew ?_ | refine blk_alloc ?_ _)); refine blk_far ?_ NB620_644.out _)); (with_reducible repeat (first | refine blk_drewN ?_ _ | refine blk_drew ?_ | refine blk_alloc ?_ _)); exact BK620.out⟩, ⟨by (repeat ((with_reducible repeat (first | refine blk_drewN ?_ _ | refine blk_drew ?_ | refine blk_alloc ?_ _)); refine blk_far ?_ NB634_644.out _)); (with_reducible repeat (first | refine blk_drewN ?_ _ | refine blk_drew ?_ | refine blk_alloc ?_ _)); exact BK634.out⟩, ⟨by (with_reducible repeat (first | refine blk_drewN ?_ _ | refine blk_drew ?_ | refine blk_alloc ?_ _)); refine blk_put (cs := #[.int .i64 t636, .int .i64 t637, .int .i64 t638, .int .i64 t639, .int .i64 t640, .int .i64 t641, .int .i64 t642, .int .i64 0]) ?_ 7 _ rfl; (with_reducible repeat (first | refine blk_drewN ?_ _ | refine blk_drew ?_ | refine blk_alloc ?_ _)); refine blk_put (cs := #[.int .i64 t636, .int .i64 t637, .int .i64 t638, .int .i64 t639, .int .i64 t640, .int .i64 t641, .int .i64 0, .int .i64 0]) ?_ 6 _ rfl; (with_reducible repeat (first | refine blk_drewN ?_ _ | refine blk_drew ?_ | refine blk_alloc ?_ _)); refine blk_put (cs := #[.int .i64 t636, .int .i64 t637, .int .i64 t638, .int .i64 t639, .int .i64 t640, .int .i64 0, .int .i64 0, .int .i64 0]) ?_ 5 _ rfl; (with_reducible repeat (first | refine blk_drewN ?_ _ | refine blk_drew ?_ | refine blk_alloc ?_ _)); refine blk_put (cs := #[.int .i64 t636, .int .i64 t637, .int .i64 t638, .int .i64 t639, .int .i64 0, .int .i64 0, .int .i64 0, .int .i64 0]) ?_ 4 _ rfl; (with_reducible repeat (first | refine blk_drewN ?_ _ | refine blk_drew ?_ | refine blk_alloc ?_ _)); refine blk_put (cs := #[.int .i64 t636, .int .i64 t637, .int .i64 t638, .int .i64 0, .int .i64 0, .int .i64 0, .int .i64 0, .int .i64 0]) ?_ 3 _ rfl; (with_reducible repeat (first | refine blk_drewN ?_ _ | refine blk_drew ?_ | refine blk_alloc ?_ _)); refine blk_put (cs := #[.int .i64 t636, .int .i64 t637, .int .i64 0, .int .i64 0, .int .i64 0, .int .i64 0, .int .i64 0, .int .i64 0]) ?_ 2 _ rfl; (with_reducible repeat (first | refine blk_drewN ?_ _ | refine blk_drew ?_ | refine blk_alloc ?_ _)); refine blk_put (cs := #[.int .i64 t636, .int .i64 0, .int .i64 0, .int .i64 0, .int .i64 0, .int .i64 0, .int .i64 0, .int .i64 0]) ?_ 1 _ rfl; (with_reducible repeat (first | refine blk_drewN ?_ _ | refine blk_drew ?_ | refine blk_alloc ?_ _)); refine blk_put (cs := #[.int .i64 0, .int .i64 0, .int .i64 0, .int .i64 0, .int .i64 0, .int .i64 0, .int .i64 0, .int .i64 0]) ?_ 0 _ rfl; (with_reducible repeat (first | refine blk_drewN ?_ _ | refine blk_drew ?_ | refine blk_alloc ?_ _)); exact BK644.out⟩, ⟨bX⟩⟩
  clear HC38
  try clear c1
  try clear c2
  try clear p2
  try clear c3
  try clear c4
  try clear c5
  try clear c6
  try clear p6
  try clear c7
  try clear c8
  try clear c9
  try clear c10
  try clear c11
  try clear c16
  try clear c17
  try clear c20
  try clear c23
  try clear c25
  try clear c25b0
  try clear c26
  try clear c27
  try clear c29
  try clear c33
  try clear c34
  try clear c35
  try clear c39
  try clear c40
  try clear c42
  try clear c46
  try clear c47
  try clear c48
  try clear c51
  try clear c51b0
  try clear c52
  try clear c53
  try clear c54
  try clear c57
  try clear c58
  try clear c59
  try clear hcz11_0
  try clear hcz11_1
  try clear hcz11_2
  try clear hcz11_3
  try clear hcz11_4
  try clear hcz11_5
  try clear hcz11_6
  try clear hcz11_7
  try clear hcz13_0
  try clear hcz13_1
  try clear hcz13_2
  try clear hcz13_3
  try clear hcz13_4
  try clear hcz13_5
  try clear hcz13_6
  try clear hcz13_7
  try clear hcz18_0
  try clear hcz18_1
  try clear hcz18_2
  try clear hcz18_3
  try clear hcz28_0
  try clear hcz28_1
  try clear hcz28_2
  try clear hcz28_3
  try clear hcz28_4
  try clear hcz28_5
  try clear hcz28_6
  try clear hcz28_7
  try clear hcz30_0
  try clear hcz30_1
  try clear hcz30_2
  try clear hcz30_3
  try clear hcz30_4
  try clear hcz30_5
  try clear hcz36_0
  try clear hcz36_1
  try clear hcz36_2
  try clear hcz36_3
  try clear hcz36_4
  try clear hcz36_5
  try clear hcz36_6
  try clear hcz36_7
  try clear hcz41_0
  try clear hcz41_1
  try clear hcz41_2
  try clear hcz41_3
  try clear hcz41_4
  try clear hcz41_5
  try clear hcz41_6
  try clear hcz41_7
  try clear hcz43_0
  try clear hcz43_1
  try clear hcz43_2
  try clear hcz43_3
  try clear hcz43_4
  try clear hcz43_5
  try clear hcz49_0
  try clear hcz49_1
  try clear hcz49_2
  try clear hcz49_3
  try clear hcz49_4
  try clear hcz49_5
  try clear hcz49_6
  try clear hcz49_7
  try clear hcz55_0
  try clear hcz55_1
  try clear hcz55_2
  try clear hcz55_3
  try clear hcz55_4
  try clear hcz55_5
  try clear hcz55_6
  try clear hcz55_7
  try clear hcz60_0
  try clear hcz60_1
  try clear hcz60_2
  try clear hcz60_3
  try clear hcz60_4
  try clear hcz60_5
  try clear hcz60_6
  try clear hcz60_7
  try clear hfz11_0
  try clear hfz11_1
  try clear hfz11_2
  try clear hfz11_3
  try clear hfz11_4
  try clear hfz11_5
  try clear hfz11_6
  try clear hfz11_7
  try clear hfz13_0
  try clear hfz13_1
  try clear hfz13_2
  try clear hfz13_3
  try clear hfz13_4
  try clear hfz13_5
  try clear hfz13_6
  try clear hfz13_7
  try clear hfz18_0
  try clear hfz18_1
  try clear hfz18_2
  try clear hfz18_3
  try clear hfz28_0
  try clear hfz28_1
  try clear hfz28_2
  try clear hfz28_3
  try clear hfz28_4
  try clear hfz28_5
  try clear hfz28_6
  try clear hfz28_7
  try clear hfz30_0
  try clear hfz30_1
  try clear hfz30_2
  try clear hfz30_3
  try clear hfz30_4
  try clear hfz30_5
  try clear hfz36_0
  try clear hfz36_1
  try clear hfz36_2
  try clear hfz36_3
  try clear hfz36_4
  try clear hfz36_5
  try clear hfz36_6
  try clear hfz36_7
  try clear hfz41_0
  try clear hfz41_1
  try clear hfz41_2
  try clear hfz41_3
  try clear hfz41_4
  try clear hfz41_5
  try clear hfz41_6
  try clear hfz41_7
  try clear hfz43_0
  try clear hfz43_1
  try clear hfz43_2
  try clear hfz43_3
  try clear hfz43_4
  try clear hfz43_5
  try clear hfz49_0
  try clear hfz49_1
  try clear hfz49_2
  try clear hfz49_3
  try clear hfz49_4
  try clear hfz49_5
  try clear hfz49_6
  try clear hfz49_7
  try clear hfz55_0
  try clear hfz55_1
  try clear hfz55_2
  try clear hfz55_3
  try clear hfz55_4
  try clear hfz55_5
  try clear hfz55_6
  try clear hfz55_7
  try clear hfz60_0
  try clear hfz60_1
  try clear hfz60_2
  try clear hfz60_3
  try clear hfz60_4
  try clear hfz60_5
  try clear hfz60_6
  try clear hfz60_7
  try clear p2
  try clear p6
  obtain ⟨kq, x66_37, rfl, HA, HJ37, BK619, BK620, BK634, BK644, HB⟩ := hcut
  cases kq with
  | zero => exact absurd HA.out (by simp [apogeelaw18_ImpactSure.j1])
  | succ kj37 =>
   have H := HA.out
   clear HA
   simp only [apogeelaw18_ImpactSure.j1] at H
   by_cases c61 : x66_37 = true
   ·subst c61
    rw [if_pos rfl] at H
    exact absurd H (by simp)
   replace c61 := Bool.eq_false_iff.mpr c61
   subst c61
   rw [if_neg bn] at H
   replace H := Option.bind_eq_some_iff.mp H
   obtain ⟨⟨t648, t649⟩, A620, H⟩ := H
   replace H : ((apogeeref12_Has.f t629 t630 t631 t632 t648 t649).bind fun t650 => (if t650 = true then ((apogeeref18_Way.f t636 t637 t638 t639 t640 t641 t642 t643 (wrap64 (t645 + 1))).bind fun bt651 => ((apogeeref12_Has.f t629 t630 t631 t632 bt651.1 bt651.2).bind fun t653 => (if t653 = true then ((apogeeref18_Way.f t636 t637 t638 t639 t640 t641 t642 t643 (wrap64 (t645 + 2))).bind fun bt654 => ((apogeeref12_Has.f t629 t630 t631 t632 bt654.1 bt654.2).bind fun t656 => (some t656))) else (none)))) else (none))) = some r := H
   have A62 := bA A620
   clear A620
   replace H := Option.bind_eq_some_iff.mp H
   obtain ⟨t650, A630, H⟩ := H
   have A63 := bA A630
   clear A630
   by_cases c64 : t650 = true
   rotate_left
   ·replace c64 := Bool.eq_false_iff.mpr c64
    subst c64
    rw [if_neg bn] at H
    exact absurd H (by simp)
   subst c64
   rw [if_pos rfl] at H
   replace H := Option.bind_eq_some_iff.mp H
   obtain ⟨⟨t651, t652⟩, A650, H⟩ := H
   replace H : ((apogeeref12_Has.f t629 t630 t631 t632 t651 t652).bind fun t653 => (if t653 = true then ((apogeeref18_Way.f t636 t637 t638 t639 t640 t641 t642 t643 (wrap64 (t645 + 2))).bind fun bt654 => ((apogeeref12_Has.f t629 t630 t631 t632 bt654.1 bt654.2).bind fun t656 => (some t656))) else (none))) = some r := H
   have A65 := bA A650
   clear A650
   replace H := Option.bind_eq_some_iff.mp H
   obtain ⟨t653, A660, H⟩ := H
   have A66 := bA A660
   clear A660
   by_cases c67 : t653 = true
   rotate_left
   ·replace c67 := Bool.eq_false_iff.mpr c67
    subst c67
    rw [if_neg bn] at H
    exact absurd H (by simp)
   subst c67
   rw [if_pos rfl] at H
   replace H := Option.bind_eq_some_iff.mp H
   obtain ⟨⟨t654, t655⟩, A680, H⟩ := H
   replace H : ((apogeeref12_Has.f t629 t630 t631 t632 t654 t655).bind fun t656 => (some t656)) = some r := H
   have A68 := bA A680
   clear A680
   replace H := Option.bind_eq_some_iff.mp H
   obtain ⟨t656, A690, H⟩ := H
   have A69 := bA A690
   clear A690
   obtain rfl := Option.some.inj H
   try go_wp2
   replace BK619 := bA (blk_drew BK619.out)
   replace BK620 := bA (blk_drew BK620.out)
   replace BK634 := bA (blk_drew BK634.out)
   replace BK644 := bA (blk_drew BK644.out)
   replace HB := bA (below_drew1 HB.out)
   refine start_ (n := 22) (S := fun w' => w'.cell? ⟨gb634, 0, none⟩ = some (.int .i64 t629) ∧ w'.cell? ⟨gb634, 1, none⟩ = some (.int .i64 t630) ∧ w'.cell? ⟨gb634, 2, none⟩ = some (.int .i64 t631) ∧ w'.cell? ⟨gb634, 3, none⟩ = some (.int .i64 t632) ∧ w'.cell? ⟨gb644, 0, none⟩ = some (.int .i64 t636) ∧ w'.cell? ⟨gb644, 1, none⟩ = some (.int .i64 t637) ∧ w'.cell? ⟨gb644, 2, none⟩ = some (.int .i64 t638) ∧ w'.cell? ⟨gb644, 3, none⟩ = some (.int .i64 t639) ∧ w'.cell? ⟨gb644, 4, none⟩ = some (.int .i64 t640) ∧ w'.cell? ⟨gb644, 5, none⟩ = some (.int .i64 t641) ∧ w'.cell? ⟨gb644, 6, none⟩ = some (.int .i64 t642) ∧ w'.cell? ⟨gb644, 7, none⟩ = some (.int .i64 t643)) (ds := []) #[false,false,false,false,false,false,false,false,false,false,false,false,false,false,false,false,false,false,false,false,false,false] (by kernel_rfl) rfl rfl ⟨bq BK634 0, bq BK634 1, bq BK634 2, bq BK634 3, bq BK644 0, bq BK644 1, bq BK644 2, bq BK644 3, bq BK644 4, bq BK644 5, bq BK644 6, bq BK644 7⟩ (fun hHeld => ?_); refine with_tabW apogeelaw18_ImpactSure.tab11 apogeelaw18_ImpactSure.bits11 (fun HT_ HW_ => ?_)
   generalize wc.drew = w70 at BK619 BK620 BK634 BK644 HB hHeld ⊢
   refine bU (i := 2) (N := some 69) ?_
   refine bW (i := 0) (N := some 67) hHeld ?_
   refine bW (i := 1) (N := some 68) hHeld ?_
   refine one_ (i := 3) (N := some 70) #[true,true,true,true,false,false,false,false,false,false,false,false,false,false,false,false,false,false,false,false,false,false] rfl rfl (one_of HT_.out (by kernel_rfl)) (by decide) (fun K hK => ?_)
   refine goes_ Try.func13 (by kernel_rfl) rfl #[.agg #[.int .i64 t636, .int .i64 t637, .int .i64 t638, .int .i64 t639, .int .i64 t640, .int .i64 t641, .int .i64 t642, .int .i64 t643], .int .i64 t645] (by rfl) rfl rfl (by (try simp only [List.map_toArray, List.map_cons, List.map_nil]); first | done | rfl | (simp only [List.length_drop, List.length_take]; rfl)) ?_
   with_reducible refine (apogeeref18_Way.calls t636 t637 t638 t639 t640 t641 t642 t643 t645 t648 t649 _ A62.out).mono ?_
   rintro e w71 ⟨rfl, hb⟩
   refine ⟨_, rfl, ?_⟩
   replace BK619 := bA (bB BK619 hb)
   replace BK620 := bA (bB BK620 hb)
   replace BK634 := bA (bB BK634 hb)
   replace BK644 := bA (bB BK644 hb)
   replace HB := bA (bS hb)
   (try clear hb)
   refine hK.out _ _ ⟨bq BK634 0, bq BK634 1, bq BK634 2, bq BK634 3, bq BK644 0, bq BK644 1, bq BK644 2, bq BK644 3, bq BK644 4, bq BK644 5, bq BK644 6, bq BK644 7⟩ (fun hHeld => ?_)
   clear hK K
   refine bI 70 ?_
   refine one_ (i := 4) (N := some 71) #[true,true,true,true,true,false,false,false,false,false,false,false,false,false,false,false,false,false,false,false,false,false] rfl rfl (one_of HT_.out (by kernel_rfl)) (by decide) (fun K hK => ?_)
   refine goes_ Try.func12 (by kernel_rfl) rfl #[.agg #[.int .i64 t629, .int .i64 t630, .int .i64 t631, .int .i64 t632], .agg #[.int .i64 t648, .int .i64 t649]] (by rfl) rfl rfl (by (try simp only [List.map_toArray, List.map_cons, List.map_nil]); first | done | rfl | (simp only [List.length_drop, List.length_take]; rfl)) ?_
   with_reducible refine (apogeeref12_Has.calls t629 t630 t631 t632 t648 t649 true _ A63.out).mono ?_
   rintro e w72 ⟨rfl, hb⟩
   refine ⟨_, rfl, ?_⟩
   replace BK619 := bA (bB BK619 hb)
   replace BK620 := bA (bB BK620 hb)
   replace BK634 := bA (bB BK634 hb)
   replace BK644 := bA (bB BK644 hb)
   replace HB := bA (bS hb)
   (try clear hb)
   refine hK.out _ _ ⟨bq BK634 0, bq BK634 1, bq BK634 2, bq BK634 3, bq BK644 0, bq BK644 1, bq BK644 2, bq BK644 3, bq BK644 4, bq BK644 5, bq BK644 6, bq BK644 7⟩ (fun hHeld => ?_)
   clear hK K
   refine bI 71 ?_
   refine bU (i := 5) (N := some 72) ?_
   refine bU (i := 8) (N := some 75) ?_
   refine bU (i := 9) (N := some 76) ?_
   refine bW (i := 6) (N := some 73) hHeld ?_
   refine bW (i := 7) (N := some 74) hHeld ?_
   refine one_ (i := 10) (N := some 77) #[true,true,true,true,true,true,true,true,true,true,true,false,false,false,false,false,false,false,false,false,false,false] rfl rfl (one_of HT_.out (by kernel_rfl)) (by decide) (fun K hK => ?_)
   refine goes_ Try.func13 (by kernel_rfl) rfl #[.agg #[.int .i64 t636, .int .i64 t637, .int .i64 t638, .int .i64 t639, .int .i64 t640, .int .i64 t641, .int .i64 t642, .int .i64 t643], .int .i64 (wrap64 (t645 + 1))] (by rfl) rfl rfl (by (try simp only [List.map_toArray, List.map_cons, List.map_nil]); first | done | rfl | (simp only [List.length_drop, List.length_take]; rfl)) ?_
   with_reducible refine (apogeeref18_Way.calls t636 t637 t638 t639 t640 t641 t642 t643 (wrap64 (t645 + 1)) t651 t652 _ A65.out).mono ?_
   rintro e w73 ⟨rfl, hb⟩
   refine ⟨_, rfl, ?_⟩
   replace BK619 := bA (bB BK619 hb)
   replace BK620 := bA (bB BK620 hb)
   replace BK634 := bA (bB BK634 hb)
   replace BK644 := bA (bB BK644 hb)
   replace HB := bA (bS hb)
   (try clear hb)
   refine hK.out _ _ ⟨bq BK634 0, bq BK634 1, bq BK634 2, bq BK634 3, bq BK644 0, bq BK644 1, bq BK644 2, bq BK644 3, bq BK644 4, bq BK644 5, bq BK644 6, bq BK644 7⟩ (fun hHeld => ?_)
   clear hK K
   refine bI 77 ?_
   refine one_ (i := 11) (N := some 78) #[true,true,true,true,true,true,true,true,true,true,true,true,false,false,false,false,false,false,false,false,false,false] rfl rfl (one_of HT_.out (by kernel_rfl)) (by decide) (fun K hK => ?_)
   refine goes_ Try.func12 (by kernel_rfl) rfl #[.agg #[.int .i64 t629, .int .i64 t630, .int .i64 t631, .int .i64 t632], .agg #[.int .i64 t651, .int .i64 t652]] (by rfl) rfl rfl (by (try simp only [List.map_toArray, List.map_cons, List.map_nil]); first | done | rfl | (simp only [List.length_drop, List.length_take]; rfl)) ?_
   with_reducible refine (apogeeref12_Has.calls t629 t630 t631 t632 t651 t652 true _ A66.out).mono ?_
   rintro e w74 ⟨rfl, hb⟩
   refine ⟨_, rfl, ?_⟩
   replace BK619 := bA (bB BK619 hb)
   replace BK620 := bA (bB BK620 hb)
   replace BK634 := bA (bB BK634 hb)
   replace BK644 := bA (bB BK644 hb)
   replace HB := bA (bS hb)
   (try clear hb)
   refine hK.out _ _ ⟨bq BK634 0, bq BK634 1, bq BK634 2, bq BK634 3, bq BK644 0, bq BK644 1, bq BK644 2, bq BK644 3, bq BK644 4, bq BK644 5, bq BK644 6, bq BK644 7⟩ (fun hHeld => ?_)
   clear hK K
   refine bI 78 ?_
   refine bU (i := 12) (N := some 79) ?_
   refine bU (i := 13) (N := some 80) ?_
   refine bU (i := 16) (N := some 83) ?_
   refine bU (i := 17) (N := some 84) ?_
   refine bW (i := 14) (N := some 81) hHeld ?_
   refine bW (i := 15) (N := some 82) hHeld ?_
   refine one_ (i := 18) (N := some 85) #[true,true,true,true,true,true,true,true,true,true,true,true,true,true,true,true,true,true,true,false,false,false] rfl rfl (one_of HT_.out (by kernel_rfl)) (by decide) (fun K hK => ?_)
   refine goes_ Try.func13 (by kernel_rfl) rfl #[.agg #[.int .i64 t636, .int .i64 t637, .int .i64 t638, .int .i64 t639, .int .i64 t640, .int .i64 t641, .int .i64 t642, .int .i64 t643], .int .i64 (wrap64 (t645 + 2))] (by rfl) rfl rfl (by (try simp only [List.map_toArray, List.map_cons, List.map_nil]); first | done | rfl | (simp only [List.length_drop, List.length_take]; rfl)) ?_
   with_reducible refine (apogeeref18_Way.calls t636 t637 t638 t639 t640 t641 t642 t643 (wrap64 (t645 + 2)) t654 t655 _ A68.out).mono ?_
   rintro e w75 ⟨rfl, hb⟩
   refine ⟨_, rfl, ?_⟩
   replace BK619 := bA (bB BK619 hb)
   replace BK620 := bA (bB BK620 hb)
   replace BK634 := bA (bB BK634 hb)
   replace BK644 := bA (bB BK644 hb)
   replace HB := bA (bS hb)
   (try clear hb)
   refine hK.out _ _ ⟨bq BK634 0, bq BK634 1, bq BK634 2, bq BK634 3, bq BK644 0, bq BK644 1, bq BK644 2, bq BK644 3, bq BK644 4, bq BK644 5, bq BK644 6, bq BK644 7⟩ (fun hHeld => ?_)
   clear hK K
   refine bI 85 ?_
   refine one_ (i := 19) (N := some 86) #[true,true,true,true,true,true,true,true,true,true,true,true,true,true,true,true,true,true,true,true,false,false] rfl rfl (one_of HT_.out (by kernel_rfl)) (by decide) (fun K hK => ?_)
   refine goes_ Try.func12 (by kernel_rfl) rfl #[.agg #[.int .i64 t629, .int .i64 t630, .int .i64 t631, .int .i64 t632], .agg #[.int .i64 t654, .int .i64 t655]] (by rfl) rfl rfl (by (try simp only [List.map_toArray, List.map_cons, List.map_nil]); first | done | rfl | (simp only [List.length_drop, List.length_take]; rfl)) ?_
   with_reducible refine (apogeeref12_Has.calls t629 t630 t631 t632 t654 t655 t656 _ A69.out).mono ?_
   rintro e w76 ⟨rfl, hb⟩
   refine ⟨_, rfl, ?_⟩
   replace BK619 := bA (bB BK619 hb)
   replace BK620 := bA (bB BK620 hb)
   replace BK634 := bA (bB BK634 hb)
   replace BK644 := bA (bB BK644 hb)
   replace HB := bA (bS hb)
   (try clear hb)
   refine hK.out _ _ ⟨bq BK634 0, bq BK634 1, bq BK634 2, bq BK634 3, bq BK644 0, bq BK644 1, bq BK644 2, bq BK644 3, bq BK644 4, bq BK644 5, bq BK644 6, bq BK644 7⟩ (fun hHeld => ?_)
   clear hK K
   refine bI 86 ?_
   refine bU (i := 20) (N := some 87) ?_
   refine bU (i := 21) (N := some 8) ?_
   refine done_ (done_of HT_.out (by kernel_rfl)) ?_
   try go_wp2
   go_ret
   exact bF
end Go.Proofs.Ytfeekdoakoabeaa.G
