-- Written by a program of this session out of the translation; Lean checks it.
import Derived.Test.YtjmibjmlihmglaaGx0
import Derived.Test.YtjmibjmlihmglaaGx8
import Derived.Test.YtjmibjmlihmglaaGx12
import Derived.Test.YtjmibjmlihmglaaGx13
import Derived.Test.YtjmibjmlihmglaaGx14
import Derived.Test.YtjmibjmlihmglaaGx15
import Derived.Test.YtjmibjmlihmglaaGx23
namespace Go.Proofs.Ytjmibjmlihmglaa.G
open Go.RowKit Go.Proofs.YtjmibjmlihmglaaW.PrintWords Go.Proofs.YtjmibjmlihmglaaW.PrintLast Go.Proofs.YtjmibjmlihmglaaW.PrintMore
attribute [local go_sem] max2_int min2_int max_two min_two max_three min_three max_four min_four   -- for this text's walks alone
set_option linter.unusedVariables false
set_option linter.unusedSimpArgs false

/-! ### apogeelaw12_BoxStays_1: function 50 -/
def apogeelaw12_BoxStays_1.f (a0_0 : Int) (a0_1 : Int) (s1_0 : Int) (s1_1 : Int) (s1_2 : Int) (s1_3 : Int) : Option (Int × Int) := some (mn (mx a0_0 s1_0) s1_2, mn (mx a0_1 s1_1) s1_3)
set_option maxHeartbeats 8000000 in
set_option maxRecDepth 100000 in
theorem apogeelaw12_BoxStays_1.calls (a0_0 : Int) (a0_1 : Int) (g : Nat) (s1_0 : Int) (s1_1 : Int) (s1_2 : Int) (s1_3 : Int) (r1 : Int) (r2 : Int) (w : World) (hbx : w.heap[g]? = some (.cells #[.int .i64 s1_0, .int .i64 s1_1, .int .i64 s1_2, .int .i64 s1_3] 44 (0, 0))) (h : apogeelaw12_BoxStays_1.f a0_0 a0_1 s1_0 s1_1 s1_2 s1_3 = some (r1, r2)) :
  Calls Try.prog 50 #[.agg #[.int .i64 a0_0, .int .i64 a0_1], .pointer (some ⟨g, 0, none⟩)] w fun e w' => e = .returned (.agg #[.int .i64 r1, .int .i64 r2]) ∧ Below w.heap.size w w' := by
 have hu41 := Try.underlying41
 have BK1 := bA hbx
 clear hbx
 have HB := bA (Below.refl w.heap.size w)
 have H : (some (mn (mx a0_0 s1_0) s1_2, mn (mx a0_1 s1_1) s1_3)) = some (r1, r2) := h
 clear h
 obtain ⟨ji3, hji3⟩ : ∃ j_ : Int, (mx a0_0 s1_0) = j_ := ⟨_, rfl⟩
 replace H : (some (mn (ji3) s1_2, mn (mx a0_1 s1_1) s1_3)) = some (r1, r2) := by first | (rw [hji3] at H; exact H) | (simp only [hji3] at H ⊢; exact H)
 have hji3_ : (if a0_0 < s1_0 then s1_0 else a0_0) = ji3 := hji3
 obtain ⟨ji4, hji4⟩ : ∃ j_ : Int, (mn (ji3) s1_2) = j_ := ⟨_, rfl⟩
 replace H : (some (ji4, mn (mx a0_1 s1_1) s1_3)) = some (r1, r2) := by first | (rw [hji4] at H; exact H) | (simp only [hji4] at H ⊢; exact H)
 have hji4_ : (if s1_2 < (ji3) then s1_2 else (ji3)) = ji4 := hji4
 obtain ⟨ji5, hji5⟩ : ∃ j_ : Int, (mx a0_1 s1_1) = j_ := ⟨_, rfl⟩
 replace H : (some (ji4, mn (ji5) s1_3)) = some (r1, r2) := by first | (rw [hji5] at H; exact H) | (simp only [hji5] at H ⊢; exact H)
 have hji5_ : (if a0_1 < s1_1 then s1_1 else a0_1) = ji5 := hji5
 obtain ⟨ji6, hji6⟩ : ∃ j_ : Int, (mn (ji5) s1_3) = j_ := ⟨_, rfl⟩
 replace H : (some (ji4, ji6)) = some (r1, r2) := by first | (rw [hji6] at H; exact H) | (simp only [hji6] at H ⊢; exact H)
 have hji6_ : (if s1_3 < (ji5) then s1_3 else (ji5)) = ji6 := hji6
 simp only [Option.some.injEq, Prod.mk.injEq] at H
 obtain ⟨rfl, rfl⟩ := H
 go_enter Try.func50, Try.ntmps50
 go_wp2_with (first | ((with_reducible refine gate_dst (N := 2) rfl ?_); refine bE (N := 2) (cs := #[.int .i64 a0_0, .int .i64 a0_1]) (t := 41) ?_; intro gb583 hg w7 hbox hb; have BK583 := bA (hbox); have GW583 := bA (bZ hg); have GE583 := bA (bZ hg); have NB1_583 := bA ((by rw [hg]; exact Nat.ne_of_lt (blk_lt (g := g) (o := .cells #[.int .i64 s1_0, .int .i64 s1_1, .int .i64 s1_2, .int .i64 s1_3] 44 (0, 0)) (bP BK1)) : g ≠ gb583)); have NB583_1 := bA ((by rw [hg]; exact Nat.ne_of_gt (blk_lt (g := g) (o := .cells #[.int .i64 s1_0, .int .i64 s1_1, .int .i64 s1_2, .int .i64 s1_3] 44 (0, 0)) (bP BK1)) : gb583 ≠ g)); replace BK1 := bA (blk_below (g := g) (o := .cells #[.int .i64 s1_0, .int .i64 s1_1, .int .i64 s1_2, .int .i64 s1_3] 44 (0, 0)) (bP BK1) hb); replace HB := bA (bS hb); clear hb hbox hg) | ((with_reducible refine gate_dst (N := 3) rfl ?_); refine bE (N := 3) (cs := #[.int .i64 0, .int .i64 0]) (t := 41) ?_; intro gb584 hg w8 hbox hb; have BK584 := bA (hbox); have GW584 := bA (bZ hg); have GE584 := bA (bZ hg); have NB1_584 := bA ((by rw [hg]; exact Nat.ne_of_lt (blk_lt (g := g) (o := .cells #[.int .i64 s1_0, .int .i64 s1_1, .int .i64 s1_2, .int .i64 s1_3] 44 (0, 0)) (bP BK1)) : g ≠ gb584)); have NB584_1 := bA ((by rw [hg]; exact Nat.ne_of_gt (blk_lt (g := g) (o := .cells #[.int .i64 s1_0, .int .i64 s1_1, .int .i64 s1_2, .int .i64 s1_3] 44 (0, 0)) (bP BK1)) : gb584 ≠ g)); have NB583_584 := bA (bL BK583 hg); have NB584_583 := bA (bG BK583 hg); replace BK1 := bA (blk_below (g := g) (o := .cells #[.int .i64 s1_0, .int .i64 s1_1, .int .i64 s1_2, .int .i64 s1_3] 44 (0, 0)) (bP BK1) hb); replace BK583 := bA (bB BK583 hb); replace HB := bA (bS hb); clear hb hbox hg; have hnb9 := NB583_1.out; have hnc9 := NB1_583.out; have hnb10 := NB583_584.out; have hnc10 := NB584_583.out; obtain ⟨hcz11_0, hcz11_1, hfz11_0, hfz11_1⟩ := bc2 BK583; have hnb12 := NB1_584.out; have hnc12 := NB584_1.out; have hcz13_0 : w8.cell? ⟨g, 0, none⟩ = some (.int .i64 s1_0) := bq BK1 0; have hcz13_1 : w8.cell? ⟨g, 1, none⟩ = some (.int .i64 s1_1) := bq BK1 1; have hcz13_2 : w8.cell? ⟨g, 2, none⟩ = some (.int .i64 s1_2) := bq BK1 2; have hcz13_3 : w8.cell? ⟨g, 3, none⟩ = some (.int .i64 s1_3) := bq BK1 3; have hfz13_0 := blk_frozen BK1.out 0; have hfz13_1 := blk_frozen BK1.out 1; have hfz13_2 := blk_frozen BK1.out 2; have hfz13_3 := blk_frozen BK1.out 3; obtain ⟨hcz14_0, hcz14_1, hfz14_0, hfz14_1⟩ := bc2 BK584))
 refine bodyPost_ret (results_cell_row rfl _ _ gb584 41 #[.int .i64 ji4, .int .i64 ji6] (0, 0) _ rfl (by (with_reducible repeat (first | refine blk_drewN ?_ _ | refine blk_drew ?_ | refine blk_alloc ?_ _)); refine blk_put (cs := #[.int .i64 ji4, .int .i64 0]) ?_ 1 _ rfl; (with_reducible repeat (first | refine blk_drewN ?_ _ | refine blk_drew ?_ | refine blk_alloc ?_ _)); refine blk_put (cs := #[.int .i64 0, .int .i64 0]) ?_ 0 _ rfl; (with_reducible repeat (first | refine blk_drewN ?_ _ | refine blk_drew ?_ | refine blk_alloc ?_ _)); exact BK584.out) Try.underlying41 rfl (by kernel_rfl)) rfl ?_
 exact ⟨by first | rfl | (simp [errW_none, errW_some] <;> rfl) | (simp only [← hji3, ← hji4, ← hji5, ← hji6]; first | rfl | (simp [errW_none, errW_some] <;> rfl)) | (simp [*, errW_none, errW_some] <;> rfl), by repeat (first | (with_reducible first | exact HB.out | apply below_alloc | apply pw_below_drewN | apply below_drew1 | refine below_set ?_ GE1.out | refine below_set ?_ GE583.out | refine below_set ?_ GE584.out) | exact HB.out)⟩
/-! ### apogeelaw12_BoxStays: function 12 -/
def apogeelaw12_BoxStays.j0 : Nat → List (S41) → Bool → Int → Int → Int → Int → Int → Int → Int → Int → Option (Bool)
 | 0, _, _, _, _, _, _, _, _, _, _ => none
 | k + 1, x1, x28, x586000, x586001, x586002, x586003, x587000, x587001, x588000, x588001 => if x28 = true then ((apogeelaw12_awake.f k).bind fun t591 => (some t591)) else ((box_Relate.f k x586000 x586001 x586002 x586003 x1).bind fun t592 => ((apogeelaw12_BoxStays_1.f x587000 x587001 x586000 x586001 x586002 x586003).bind fun bt593 => ((apogeelaw12_BoxStays_1.f x588000 x588001 x586000 x586001 x586002 x586003).bind fun bt595 => ((box_In.f (mn bt593.1 bt595.1) (mn bt593.2 bt595.2) (mx bt593.1 bt595.1) (mx bt593.2 bt595.2) x586000 x586001 x586002 x586003).bind fun t598 => (if t598 = true then (if t592 = 0 then (some true) else ((box_Relate.f k (mn bt593.1 bt595.1) (mn bt593.2 bt595.2) (mx bt593.1 bt595.1) (mx bt593.2 bt595.2) x1).bind fun t599 => (if t599 = t592 then ((poly_Side.f k x1 bt593.1 bt593.2).bind fun t600 => (if t600 = t592 then ((poly_Side.f k x1 bt595.1 bt595.2).bind fun t601 => (some (t601 == t592))) else (none))) else (none)))) else (none))))))
def apogeelaw12_BoxStays.f (k : Nat) (a0_0 : Int) (a0_1 : Int) (a0_2 : Int) (a0_3 : Int) (l1 : List (S41)) (a2_0 : Int) (a2_1 : Int) (a3_0 : Int) (a3_1 : Int) : Option (Bool) := (apogeelaw12_awake.f k).bind fun t588 => (if t588 = true then (if (l1.length : Int) > 12 then (apogeelaw12_BoxStays.j0 k l1 true a0_0 a0_1 a0_2 a0_3 a2_0 a2_1 a3_0 a3_1) else ((apogeeref11_Right.f k l1).bind fun t589 => (if t589 = true then ((apogeeref12_Right.f a0_0 a0_1 a0_2 a0_3).bind fun t590 => (apogeelaw12_BoxStays.j0 k l1 (!t590) a0_0 a0_1 a0_2 a0_3 a2_0 a2_1 a3_0 a3_1)) else (apogeelaw12_BoxStays.j0 k l1 true a0_0 a0_1 a0_2 a0_3 a2_0 a2_1 a3_0 a3_1)))) else (apogeelaw12_BoxStays.j0 k l1 true a0_0 a0_1 a0_2 a0_3 a2_0 a2_1 a3_0 a3_1))
theorem apogeelaw12_BoxStays.mono_l : ∀ k, (∀ y0 y1 y2 y3 y4 y5 y6 y7 y8 y9, LeO (apogeelaw12_BoxStays.j0 k y0 y1 y2 y3 y4 y5 y6 y7 y8 y9) (apogeelaw12_BoxStays.j0 (k + 1) y0 y1 y2 y3 y4 y5 y6 y7 y8 y9))
 | 0 => fun _ _ _ _ _ _ _ _ _ _ r h => by simp [apogeelaw12_BoxStays.j0] at h
 | k + 1 => by
  have ih0 := apogeelaw12_BoxStays.mono_l k
  ·intro y0 y1 y2 y3 y4 y5 y6 y7 y8 y9
   unfold apogeelaw12_BoxStays.j0
   repeat' first
   | (with_reducible exact ih0 _ _ _ _ _ _ _ _ _ _)
   | (with_reducible exact apogeelaw12_awake.mono _)
   | (with_reducible exact apogeeref11_Right.mono _ _)
   | (with_reducible exact box_Relate.mono _ _ _ _ _ _)
   | (with_reducible exact poly_Side.mono _ _ _ _)
   | (with_reducible exact LeO.refl _)
   | (with_reducible exact LeO.none _)
   | (with_reducible refine LeO.ite ?_ ?_)
   | (with_reducible refine LeO.bind ?_ (fun _ => ?_))
   | exact ih0 _ _ _ _ _ _ _ _ _ _
   | exact apogeelaw12_awake.mono _
   | exact apogeeref11_Right.mono _ _
   | exact box_Relate.mono _ _ _ _ _ _
   | exact poly_Side.mono _ _ _ _
   | exact LeO.none _
   | refine LeO.ite ?_ ?_
   | refine LeO.bind ?_ (fun _ => ?_)
theorem apogeelaw12_BoxStays.mono : ∀ a0 a1 a2 a3 a4 a5 a6 a7 a8 k, LeO (apogeelaw12_BoxStays.f k a0 a1 a2 a3 a4 a5 a6 a7 a8) (apogeelaw12_BoxStays.f (k + 1) a0 a1 a2 a3 a4 a5 a6 a7 a8) := by
 intro a0 a1 a2 a3 a4 a5 a6 a7 a8 k
 have ih0 := apogeelaw12_BoxStays.mono_l k
 unfold apogeelaw12_BoxStays.f
 repeat' first
   | (with_reducible exact ih0 _ _ _ _ _ _ _ _ _ _)
   | (with_reducible exact apogeelaw12_awake.mono _)
   | (with_reducible exact apogeeref11_Right.mono _ _)
   | (with_reducible exact box_Relate.mono _ _ _ _ _ _)
   | (with_reducible exact poly_Side.mono _ _ _ _)
   | (with_reducible exact LeO.refl _)
   | (with_reducible exact LeO.none _)
   | (with_reducible refine LeO.ite ?_ ?_)
   | (with_reducible refine LeO.bind ?_ (fun _ => ?_))
   | exact ih0 _ _ _ _ _ _ _ _ _ _
   | exact apogeelaw12_awake.mono _
   | exact apogeeref11_Right.mono _ _
   | exact box_Relate.mono _ _ _ _ _ _
   | exact poly_Side.mono _ _ _ _
   | exact LeO.none _
   | refine LeO.ite ?_ ?_
   | refine LeO.bind ?_ (fun _ => ?_)
def apogeelaw12_BoxStays.T5 : Bool × List (List Nat × List Nat) := (true, [([], []), ([], []), ([0, 1], [0, 1]), ([], []), ([], []), ([3, 4, 2], [3, 4]), ([2, 5, 0, 1, 2], [2]), ([5, 6, 0, 1, 2, 3, 4, 5, 6], [5])])
def apogeelaw12_BoxStays.B5 : List Nat := [0, 0, 3, 0, 0, 31, 63, 127]
theorem apogeelaw12_BoxStays.tab5 : rtab .any (opsOf Try.f12 5) = apogeelaw12_BoxStays.T5 := by kernel_rfl
theorem apogeelaw12_BoxStays.bits5 : waitsOk apogeelaw12_BoxStays.T5.2 apogeelaw12_BoxStays.B5 = true := by kernel_rfl
set_option maxHeartbeats 8000000 in
set_option maxRecDepth 100000 in
theorem apogeelaw12_BoxStays.calls (k : Nat) (a0_0 : Int) (a0_1 : Int) (a0_2 : Int) (a0_3 : Int) (A1 : Option Addr) (c1 : Nat) (l1 : List (S41)) (a2_0 : Int) (a2_1 : Int) (a3_0 : Int) (a3_1 : Int) (r : Bool) (w : World) (hr1 : Kd.C k41 w A1 l1.length l1) (hc1 : l1.length ≤ c1) (h : apogeelaw12_BoxStays.f k a0_0 a0_1 a0_2 a0_3 l1 a2_0 a2_1 a3_0 a3_1 = some r) :
  Calls Try.prog 12 #[.agg #[.int .i64 a0_0, .int .i64 a0_1, .int .i64 a0_2, .int .i64 a0_3], .slice A1 l1.length c1, .agg #[.int .i64 a2_0, .int .i64 a2_1], .agg #[.int .i64 a3_0, .int .i64 a3_1]] w fun e w' => e = .returned (.bool r) ∧ Below w.heap.size w w' := by
 have hu44 := Try.underlying44
 have hu41 := Try.underlying41
 have HR1 := bA hr1
 have HC1 := bA hc1
 clear hr1 hc1
 have HB := bA (Below.refl w.heap.size w)
 have H : ((apogeelaw12_awake.f k).bind fun t588 => (if t588 = true then (if (l1.length : Int) > 12 then (apogeelaw12_BoxStays.j0 k l1 true a0_0 a0_1 a0_2 a0_3 a2_0 a2_1 a3_0 a3_1) else ((apogeeref11_Right.f k l1).bind fun t589 => (if t589 = true then ((apogeeref12_Right.f a0_0 a0_1 a0_2 a0_3).bind fun t590 => (apogeelaw12_BoxStays.j0 k l1 (!t590) a0_0 a0_1 a0_2 a0_3 a2_0 a2_1 a3_0 a3_1)) else (apogeelaw12_BoxStays.j0 k l1 true a0_0 a0_1 a0_2 a0_3 a2_0 a2_1 a3_0 a3_1)))) else (apogeelaw12_BoxStays.j0 k l1 true a0_0 a0_1 a0_2 a0_3 a2_0 a2_1 a3_0 a3_1))) = some r := h
 clear h
 have HC5 := bA H
 clear H
 have hmf : ∀ (fn : Fn) (first cap : Array Value) (w : World), (Instr.makeFunc fn first cap).run Try.prog w = .ok (.func fn first cap) w := fun _ _ _ _ => rfl
 go_enter Try.func12, Try.ntmps12
 go_upto_region 1 with (first | ((with_reducible refine gate_dst (N := 4) rfl ?_); (try (refine gate_guard (by rfl) ?_; dsimp only)); refine bE (N := 4) (cs := #[.int .i64 a0_0, .int .i64 a0_1, .int .i64 a0_2, .int .i64 a0_3]) (t := 44) ?_; intro gb585 hg w6 hbox hb; have n0_ := bA (bS hb); have n1_ := bA (hbox); have n2_ := bA (bZ hg); have n3_ := bA (bZ hg); clear HB; have HB := n0_; have BK585 := n1_; have GW585 := n2_; have GE585 := n3_; clear n0_ n1_ n2_ n3_; clear hb hbox hg) | ((with_reducible refine gate_dst (N := 6) rfl ?_); (try (refine gate_guard (by rfl) ?_; dsimp only)); refine bE (N := 6) (cs := #[.int .i64 a2_0, .int .i64 a2_1]) (t := 41) ?_; intro gb586 hg w7 hbox hb; have n0_ := bA (bB BK585 hb); have n1_ := bA (bS hb); have n2_ := bA (hbox); have n3_ := bA (bZ hg); have n4_ := bA (bZ hg); have n5_ := bA (bL BK585 hg); have n6_ := bA (bG BK585 hg); clear BK585; clear HB; have BK585 := n0_; have HB := n1_; have BK586 := n2_; have GW586 := n3_; have GE586 := n4_; have NB585_586 := n5_; have NB586_585 := n6_; clear n0_ n1_ n2_ n3_ n4_ n5_ n6_; clear hb hbox hg) | ((with_reducible refine gate_dst (N := 7) rfl ?_); (try (refine gate_guard (by rfl) ?_; dsimp only)); refine bE (N := 7) (cs := #[.int .i64 a3_0, .int .i64 a3_1]) (t := 41) ?_; intro gb587 hg w8 hbox hb; have n0_ := bA (bB BK585 hb); have n1_ := bA (bB BK586 hb); have n2_ := bA (bS hb); have n3_ := bA (hbox); have n4_ := bA (bZ hg); have n5_ := bA (bZ hg); have n6_ := bA (bL BK585 hg); have n7_ := bA (bG BK585 hg); have n8_ := bA (bL BK586 hg); have n9_ := bA (bG BK586 hg); clear BK585; clear BK586; clear HB; have BK585 := n0_; have BK586 := n1_; have HB := n2_; have BK587 := n3_; have GW587 := n4_; have GE587 := n5_; have NB585_587 := n6_; have NB587_585 := n7_; have NB586_587 := n8_; have NB587_586 := n9_; clear n0_ n1_ n2_ n3_ n4_ n5_ n6_ n7_ n8_ n9_; clear hb hbox hg))
 (try simp only [Act.put, List.setIfInBounds_toArray, List.set_cons_zero, List.set_cons_succ])
 go_cut [28] (fun v28 wc => ∃ (kq : Nat) (x28_4 : Bool), v28 = .bool x28_4 ∧ Aside0 (apogeelaw12_BoxStays.j0 kq l1 x28_4 a0_0 a0_1 a0_2 a0_3 a2_0 a2_1 a3_0 a3_1 = some r) ∧ Aside0 (kq ≤ k) ∧ Aside0 (wc.heap[gb585]? = some (.cells #[.int .i64 a0_0, .int .i64 a0_1, .int .i64 a0_2, .int .i64 a0_3] 44 (0, 0))) ∧ Aside0 (wc.heap[gb586]? = some (.cells #[.int .i64 a2_0, .int .i64 a2_1] 41 (0, 0))) ∧ Aside0 (wc.heap[gb587]? = some (.cells #[.int .i64 a3_0, .int .i64 a3_1] 41 (0, 0))) ∧ Aside0 (Below w.heap.size w wc))
 case first =>
  have H := HC5.out
  clear HC5
  replace H := Option.bind_eq_some_iff.mp H
  obtain ⟨t588, A90, H⟩ := H
  have A9 := bA A90
  clear A90
  by_cases c10 : t588 = true
  subst c10
  rw [if_pos rfl] at H
  by_cases c11 : (l1.length : Int) > 12
  rw [if_pos c11] at H
  have c11b0 : decide (12 < (l1.length : Int)) = true := decide_eq_true c11
  have c11b1 : decide (12 < l1.length) = true := decide_eq_true (by omega)
  clear c11
  (first | rw [c11b0] | (simp only [i64_w, i32_w]; rw [c11b0]) | skip)
  have H' := bA H
  clear H
  rotate_left
  rw [if_neg c11] at H
  have c11b0 : decide (12 < (l1.length : Int)) = false := decide_eq_false c11
  have c11b1 : decide (12 < l1.length) = false := decide_eq_false (by omega)
  clear c11
  (first | rw [c11b0] | (simp only [i64_w, i32_w]; rw [c11b0]) | skip)
  replace H := Option.bind_eq_some_iff.mp H
  obtain ⟨t589, A130, H⟩ := H
  have A13 := bA A130
  clear A130
  by_cases c14 : t589 = true
  subst c14
  rw [if_pos rfl] at H
  replace H := Option.bind_eq_some_iff.mp H
  obtain ⟨t590, A150, H⟩ := H
  have A15 := bA A150
  clear A150
  have H' := bA H
  clear H
  rotate_left
  replace c14 := Bool.eq_false_iff.mpr c14
  subst c14
  rw [if_neg bn] at H
  have H' := bA H
  clear H
  rotate_left
  replace c10 := Bool.eq_false_iff.mpr c10
  subst c10
  rw [if_neg bn] at H
  have H' := bA H
  clear H
  rotate_left
  all_goals go_wp2_with (first | ((first | ((with_reducible refine gate_callee (f := 44) rfl ?_); refine bC (some 12) Try.func44 #[] ?_) | go_at_call 44); (with_reducible refine (apogeelaw12_awake.calls k  true _ A9.out).mono ?_); rintro e wz0 ⟨rfl, hb⟩; (first | refine ⟨_, rfl, ?_⟩ | skip); replace BK585 := bA (bB BK585 hb); replace BK586 := bA (bB BK586 hb); replace BK587 := bA (bB BK587 hb); replace HB := bA (bS hb); (try clear hb)) | (go_at_call 28; (with_reducible refine (apogeeref11_Right.calls k _ _ l1 true _ ?side1 ?side2 A13.out).mono ?_); (case side1 => exact bQ HR1); (case side2 => exact HC1.out); rintro e wz1 ⟨rfl, hb⟩; replace BK585 := bA (bB BK585 hb); replace BK586 := bA (bB BK586 hb); replace BK587 := bA (bB BK587 hb); replace HB := bA (bS hb); (try clear hb); have hz1 := NB585_586.out; have hz2 := NB586_585.out; have hz3 := NB585_587.out; have hz4 := NB587_585.out; obtain ⟨hz5, hz6, hz7, hz8, hz9, hz10, hz11, hz12⟩ := bc4 BK585) | (go_at_call 49; (with_reducible refine (apogeeref12_Right.calls a0_0 a0_1 a0_2 a0_3 t590 _ A15.out).mono ?_); rintro e wz2 ⟨rfl, hb⟩; replace BK585 := bA (bB BK585 hb); replace BK586 := bA (bB BK586 hb); replace BK587 := bA (bB BK587 hb); replace HB := bA (bS hb); (try clear hb)) | (go_at_call 28; (with_reducible refine (apogeeref11_Right.calls k _ _ l1 false _ ?side1 ?side2 A13.out).mono ?_); (case side1 => exact bQ HR1); (case side2 => exact HC1.out); rintro e wz1 ⟨rfl, hb⟩; replace BK585 := bA (bB BK585 hb); replace BK586 := bA (bB BK586 hb); replace BK587 := bA (bB BK587 hb); replace HB := bA (bS hb); (try clear hb)) | ((first | ((with_reducible refine gate_callee (f := 44) rfl ?_); refine bC (some 12) Try.func44 #[] ?_) | go_at_call 44); (with_reducible refine (apogeelaw12_awake.calls k  false _ A9.out).mono ?_); rintro e wz0 ⟨rfl, hb⟩; (first | refine ⟨_, rfl, ?_⟩ | skip); replace BK585 := bA (bB BK585 hb); replace BK586 := bA (bB BK586 hb); replace BK587 := bA (bB BK587 hb); replace HB := bA (bS hb); (try clear hb)))
  ·go_meet
   case rel => exact ⟨_, (true), bs, H', ⟨by first | omega | exact Nat.le_refl _⟩, ⟨by (with_reducible repeat (first | refine blk_drewN ?_ _ | refine blk_drew ?_ | refine blk_alloc ?_ _)); exact BK585.out⟩, ⟨by (with_reducible repeat (first | refine blk_drewN ?_ _ | refine blk_drew ?_ | refine blk_alloc ?_ _)); exact BK586.out⟩, ⟨by (with_reducible repeat (first | refine blk_drewN ?_ _ | refine blk_drew ?_ | refine blk_alloc ?_ _)); exact BK587.out⟩, ⟨bX⟩⟩
  ·go_meet
   case rel => exact ⟨_, (!t590), bs, H', ⟨by first | omega | exact Nat.le_refl _⟩, ⟨by (with_reducible repeat (first | refine blk_drewN ?_ _ | refine blk_drew ?_ | refine blk_alloc ?_ _)); exact BK585.out⟩, ⟨by (with_reducible repeat (first | refine blk_drewN ?_ _ | refine blk_drew ?_ | refine blk_alloc ?_ _)); exact BK586.out⟩, ⟨by (with_reducible repeat (first | refine blk_drewN ?_ _ | refine blk_drew ?_ | refine blk_alloc ?_ _)); exact BK587.out⟩, ⟨bX⟩⟩
  ·go_meet
   case rel => exact ⟨_, (true), bs, H', ⟨by first | omega | exact Nat.le_refl _⟩, ⟨by (with_reducible repeat (first | refine blk_drewN ?_ _ | refine blk_drew ?_ | refine blk_alloc ?_ _)); exact BK585.out⟩, ⟨by (with_reducible repeat (first | refine blk_drewN ?_ _ | refine blk_drew ?_ | refine blk_alloc ?_ _)); exact BK586.out⟩, ⟨by (with_reducible repeat (first | refine blk_drewN ?_ _ | refine blk_drew ?_ | refine blk_alloc ?_ _)); exact BK587.out⟩, ⟨bX⟩⟩
  go_meet
  case rel => exact ⟨_, (true), bs, H', ⟨by first | omega | exact Nat.le_refl _⟩, ⟨by (with_reducible repeat (first | refine blk_drewN ?_ _ | refine blk_drew ?_ | refine blk_alloc ?_ _)); exact BK585.out⟩, ⟨by (with_reducible repeat (first | refine blk_drewN ?_ _ | refine blk_drew ?_ | refine blk_alloc ?_ _)); exact BK586.out⟩, ⟨by (with_reducible repeat (first | refine blk_drewN ?_ _ | refine blk_drew ?_ | refine blk_alloc ?_ _)); exact BK587.out⟩, ⟨bX⟩⟩
 clear HC5
 try clear c1
 try clear p2
 try clear c4
 try clear c10
 try clear c11
 try clear c11b0
 try clear c11b1
 try clear c12
 try clear c14
 try clear c18
 try clear c19
 try clear hcz20_0
 try clear hcz20_1
 try clear hcz20_2
 try clear hcz20_3
 try clear hfz20_0
 try clear hfz20_1
 try clear hfz20_2
 try clear hfz20_3
 obtain ⟨kq, x28_4, rfl, HA, HJ4, BK585, BK586, BK587, HB⟩ := hcut
 cases kq with
 | zero => exact absurd HA.out (by simp [apogeelaw12_BoxStays.j0])
 | succ kj4 =>
  have H := HA.out
  clear HA
  simp only [apogeelaw12_BoxStays.j0] at H
  by_cases c25 : x28_4 = true
  ·subst c25
   rw [if_pos rfl] at H
   replace H := Option.bind_eq_some_iff.mp H
   obtain ⟨t591, A260, H⟩ := H
   have A26 := bA A260
   clear A260
   obtain rfl := Option.some.inj H
   go_wp2_with (first | ((first | ((with_reducible refine gate_callee (f := 44) rfl ?_); refine bC (some 29) Try.func44 #[] ?_) | go_at_call 44); (with_reducible refine (apogeelaw12_awake.calls kj4  t591 _ A26.out).mono ?_); rintro e w27 ⟨rfl, hb⟩; (first | refine ⟨_, rfl, ?_⟩ | skip); replace BK585 := bA (bB BK585 hb); replace BK586 := bA (bB BK586 hb); replace BK587 := bA (bB BK587 hb); replace HB := bA (bS hb); (try clear hb)))
   go_ret
   exact bF
  replace c25 := Bool.eq_false_iff.mpr c25
  subst c25
  rw [if_neg bn] at H
  replace H := Option.bind_eq_some_iff.mp H
  obtain ⟨t592, A280, H⟩ := H
  have A28 := bA A280
  clear A280
  replace H := Option.bind_eq_some_iff.mp H
  obtain ⟨⟨t593, t594⟩, A290, H⟩ := H
  replace H : ((apogeelaw12_BoxStays_1.f a3_0 a3_1 a0_0 a0_1 a0_2 a0_3).bind fun bt595 => ((box_In.f (mn t593 bt595.1) (mn t594 bt595.2) (mx t593 bt595.1) (mx t594 bt595.2) a0_0 a0_1 a0_2 a0_3).bind fun t598 => (if t598 = true then (if t592 = 0 then (some true) else ((box_Relate.f kj4 (mn t593 bt595.1) (mn t594 bt595.2) (mx t593 bt595.1) (mx t594 bt595.2) l1).bind fun t599 => (if t599 = t592 then ((poly_Side.f kj4 l1 t593 t594).bind fun t600 => (if t600 = t592 then ((poly_Side.f kj4 l1 bt595.1 bt595.2).bind fun t601 => (some (t601 == t592))) else (none))) else (none)))) else (none)))) = some r := H
  have A29 := bA A290
  clear A290
  replace H := Option.bind_eq_some_iff.mp H
  obtain ⟨⟨t595, t596⟩, A300, H⟩ := H
  replace H : ((box_In.f (mn t593 t595) (mn t594 t596) (mx t593 t595) (mx t594 t596) a0_0 a0_1 a0_2 a0_3).bind fun t598 => (if t598 = true then (if t592 = 0 then (some true) else ((box_Relate.f kj4 (mn t593 t595) (mn t594 t596) (mx t593 t595) (mx t594 t596) l1).bind fun t599 => (if t599 = t592 then ((poly_Side.f kj4 l1 t593 t594).bind fun t600 => (if t600 = t592 then ((poly_Side.f kj4 l1 t595 t596).bind fun t601 => (some (t601 == t592))) else (none))) else (none)))) else (none))) = some r := H
  have A30 := bA A300
  clear A300
  obtain ⟨ji31, hji31⟩ : ∃ j_ : Int, (mn t593 t595) = j_ := ⟨_, rfl⟩
  replace H : ((box_In.f (ji31) (mn t594 t596) (mx t593 t595) (mx t594 t596) a0_0 a0_1 a0_2 a0_3).bind fun t598 => (if t598 = true then (if t592 = 0 then (some true) else ((box_Relate.f kj4 (ji31) (mn t594 t596) (mx t593 t595) (mx t594 t596) l1).bind fun t599 => (if t599 = t592 then ((poly_Side.f kj4 l1 t593 t594).bind fun t600 => (if t600 = t592 then ((poly_Side.f kj4 l1 t595 t596).bind fun t601 => (some (t601 == t592))) else (none))) else (none)))) else (none))) = some r := by first | (rw [hji31] at H; exact H) | (simp only [hji31] at H ⊢; exact H)
  (try rw [hji31] at A28)
  (try rw [hji31] at A29)
  (try rw [hji31] at A30)
  have hji31_ : (if t595 < t593 then t595 else t593) = ji31 := hji31
  obtain ⟨ji32, hji32⟩ : ∃ j_ : Int, (mn t594 t596) = j_ := ⟨_, rfl⟩
  replace H : ((box_In.f (ji31) (ji32) (mx t593 t595) (mx t594 t596) a0_0 a0_1 a0_2 a0_3).bind fun t598 => (if t598 = true then (if t592 = 0 then (some true) else ((box_Relate.f kj4 (ji31) (ji32) (mx t593 t595) (mx t594 t596) l1).bind fun t599 => (if t599 = t592 then ((poly_Side.f kj4 l1 t593 t594).bind fun t600 => (if t600 = t592 then ((poly_Side.f kj4 l1 t595 t596).bind fun t601 => (some (t601 == t592))) else (none))) else (none)))) else (none))) = some r := by first | (rw [hji32] at H; exact H) | (simp only [hji32] at H ⊢; exact H)
  (try rw [hji32] at A28)
  (try rw [hji32] at A29)
  (try rw [hji32] at A30)
  have hji32_ : (if t596 < t594 then t596 else t594) = ji32 := hji32
  obtain ⟨ji33, hji33⟩ : ∃ j_ : Int, (mx t593 t595) = j_ := ⟨_, rfl⟩
  replace H : ((box_In.f (ji31) (ji32) (ji33) (mx t594 t596) a0_0 a0_1 a0_2 a0_3).bind fun t598 => (if t598 = true then (if t592 = 0 then (some true) else ((box_Relate.f kj4 (ji31) (ji32) (ji33) (mx t594 t596) l1).bind fun t599 => (if t599 = t592 then ((poly_Side.f kj4 l1 t593 t594).bind fun t600 => (if t600 = t592 then ((poly_Side.f kj4 l1 t595 t596).bind fun t601 => (some (t601 == t592))) else (none))) else (none)))) else (none))) = some r := by first | (rw [hji33] at H; exact H) | (simp only [hji33] at H ⊢; exact H)
  (try rw [hji33] at A28)
  (try rw [hji33] at A29)
  (try rw [hji33] at A30)
  have hji33_ : (if t593 < t595 then t595 else t593) = ji33 := hji33
  obtain ⟨ji34, hji34⟩ : ∃ j_ : Int, (mx t594 t596) = j_ := ⟨_, rfl⟩
  replace H : ((box_In.f (ji31) (ji32) (ji33) (ji34) a0_0 a0_1 a0_2 a0_3).bind fun t598 => (if t598 = true then (if t592 = 0 then (some true) else ((box_Relate.f kj4 (ji31) (ji32) (ji33) (ji34) l1).bind fun t599 => (if t599 = t592 then ((poly_Side.f kj4 l1 t593 t594).bind fun t600 => (if t600 = t592 then ((poly_Side.f kj4 l1 t595 t596).bind fun t601 => (some (t601 == t592))) else (none))) else (none)))) else (none))) = some r := by first | (rw [hji34] at H; exact H) | (simp only [hji34] at H ⊢; exact H)
  (try rw [hji34] at A28)
  (try rw [hji34] at A29)
  (try rw [hji34] at A30)
  have hji34_ : (if t594 < t596 then t596 else t594) = ji34 := hji34
  replace H := Option.bind_eq_some_iff.mp H
  obtain ⟨t598, A350, H⟩ := H
  have A35 := bA A350
  clear A350
  by_cases c36 : t598 = true
  rotate_left
  ·replace c36 := Bool.eq_false_iff.mpr c36
   subst c36
   rw [if_neg bn] at H
   exact absurd H (by simp)
  subst c36
  rw [if_pos rfl] at H
  by_cases c37 : t592 = 0
  ·rw [if_pos c37] at H
   have c37b0 : (t592 == 0) = true := beq_iff_eq.mpr c37
   have c37b1 : (t592 != 0) = false := bne_eq_false_iff_eq.mpr c37
   clear c37
   obtain rfl := Option.some.inj H
   have hnb38 := NB585_586.out
   have hnc38 := NB586_585.out
   have hnb39 := NB585_587.out
   have hnc39 := NB587_585.out
   obtain ⟨hcz40_0, hcz40_1, hcz40_2, hcz40_3, hfz40_0, hfz40_1, hfz40_2, hfz40_3⟩ := bc4 BK585
   try go_wp2_with (first | ((first | ((with_reducible refine gate_callee (f := 47) rfl ?_); refine bC (some 32) Try.func47 #[.agg #[.int .i64 a0_0, .int .i64 a0_1, .int .i64 a0_2, .int .i64 a0_3], .slice A1 l1.length c1] ?_) | go_at_call 47); (with_reducible refine (box_Relate.calls kj4 a0_0 a0_1 a0_2 a0_3 _ _ l1 t592 _ ?side1 ?side2 A28.out).mono ?_); (case side1 => exact bQ HR1); (case side2 => exact HC1.out); rintro e w41 ⟨rfl, hb⟩; (first | refine ⟨_, rfl, ?_⟩ | skip); replace BK585 := bA (bB BK585 hb); replace BK586 := bA (bB BK586 hb); replace BK587 := bA (bB BK587 hb); replace HB := bA (bS hb); (try clear hb)))
   replace BK585 := bA (blk_drew BK585.out)
   replace BK586 := bA (blk_drew BK586.out)
   replace BK587 := bA (blk_drew BK587.out)
   replace HB := bA (below_drew1 HB.out)
   refine start_ (n := 8) (S := fun w' => w'.cell? ⟨gb586, 0, none⟩ = some (.int .i64 a2_0) ∧ w'.cell? ⟨gb586, 1, none⟩ = some (.int .i64 a2_1) ∧ w'.cell? ⟨gb587, 0, none⟩ = some (.int .i64 a3_0) ∧ w'.cell? ⟨gb587, 1, none⟩ = some (.int .i64 a3_1)) (ds := [6, 7]) #[false,false,false,false,false,false,false,false] (by kernel_rfl) rfl rfl ⟨bq BK586 0, bq BK586 1, bq BK587 0, bq BK587 1⟩ (fun hHeld => ?_); refine with_tabW apogeelaw12_BoxStays.tab5 apogeelaw12_BoxStays.bits5 (fun HT_ HW_ => ?_)
   generalize w41.drew = w42 at BK585 BK586 BK587 HB hHeld ⊢
   refine bU (i := 0) (N := some 34) ?_
   refine bU (i := 3) (N := some 37) ?_
   refine bW (i := 1) (N := some 35) hHeld ?_
   refine bW (i := 4) (N := some 38) hHeld ?_
   refine one_ (i := 2) (N := some 36) #[true,true,true,true,true,false,false,false] rfl rfl (one_of HT_.out (by kernel_rfl)) (by decide) (fun K hK => ?_)
   refine goesT_ Try.func50 (by kernel_rfl) rfl #[.agg #[.int .i64 a2_0, .int .i64 a2_1], .pointer (some ⟨gb585, 0, none⟩)] (by rfl) rfl rfl (by rfl) (by first | rfl | (simp only [List.map_toArray, List.map_cons, List.map_nil, List.append_toArray, List.cons_append, List.nil_append]; rfl)) ?_
   with_reducible refine (apogeelaw12_BoxStays_1.calls a2_0 a2_1 gb585 a0_0 a0_1 a0_2 a0_3 t593 t594 _ ?side1 A29.out).mono ?_
   (case side1 => exact (bP BK585))
   rintro e w43 ⟨rfl, hb⟩
   refine ⟨_, rfl, ?_⟩
   replace BK585 := bA (bB BK585 hb)
   replace BK586 := bA (bB BK586 hb)
   replace BK587 := bA (bB BK587 hb)
   replace HB := bA (bS hb)
   (try clear hb)
   refine hK.out _ _ ⟨bq BK586 0, bq BK586 1, bq BK587 0, bq BK587 1⟩ (fun hHeld => ?_)
   clear hK K
   refine bH ?_
   refine one_ (i := 5) (N := some 39) #[true,true,true,true,true,true,false,false] rfl rfl (one_of HT_.out (by kernel_rfl)) (by decide) (fun K hK => ?_)
   refine goesT_ Try.func50 (by kernel_rfl) rfl #[.agg #[.int .i64 a3_0, .int .i64 a3_1], .pointer (some ⟨gb585, 0, none⟩)] (by rfl) rfl rfl (by rfl) (by first | rfl | (simp only [List.map_toArray, List.map_cons, List.map_nil, List.append_toArray, List.cons_append, List.nil_append]; rfl)) ?_
   with_reducible refine (apogeelaw12_BoxStays_1.calls a3_0 a3_1 gb585 a0_0 a0_1 a0_2 a0_3 t595 t596 _ ?side1 A30.out).mono ?_
   (case side1 => exact (bP BK585))
   rintro e w44 ⟨rfl, hb⟩
   refine ⟨_, rfl, ?_⟩
   replace BK585 := bA (bB BK585 hb)
   replace BK586 := bA (bB BK586 hb)
   replace BK587 := bA (bB BK587 hb)
   replace HB := bA (bS hb)
   (try clear hb)
   refine hK.out _ _ ⟨bq BK586 0, bq BK586 1, bq BK587 0, bq BK587 1⟩ (fun hHeld => ?_)
   clear hK K
   refine bH ?_
   refine last_ (i := 6) (N := none) #[true,true,true,true,true,true,true,false] rfl rfl (one_of HT_.out (by kernel_rfl)) (by decide) (fun K hK => ?_)
   have hs45 : w44.cell? ⟨gb586, 0, none⟩ = some (.int .i64 a2_0) := bq BK586 0
   have hfs45 := blk_frozen BK586.out 0
   have hns45_0 := NB585_586.out
   have hns45_2 := NB587_586.out
   have hms45_0 := NB586_585.out
   have hms45_2 := NB586_587.out
   have hs46 : w44.cell? ⟨gb586, 1, none⟩ = some (.int .i64 a2_1) := bq BK586 1
   have hfs46 := blk_frozen BK586.out 1
   have hns46_0 := NB585_586.out
   have hns46_2 := NB587_586.out
   have hms46_0 := NB586_585.out
   have hms46_2 := NB586_587.out
   refine skip_ (w1 := ?_) (by rfl) rfl ?_ ?_
   rotate_left
   ·go_simp
    rfl
   refine hK.out _ _ ?_
   clear hK K
   refine last_ (i := 7) (N := none) #[true,true,true,true,true,true,true,true] rfl rfl (one_of HT_.out (by kernel_rfl)) (by decide) (fun K hK => ?_)
   have hs47 : w44.cell? ⟨gb587, 0, none⟩ = some (.int .i64 a3_0) := bq BK587 0
   have hfs47 := blk_frozen BK587.out 0
   have hns47_0 := NB585_587.out
   have hns47_1 := NB586_587.out
   have hms47_0 := NB587_585.out
   have hms47_1 := NB587_586.out
   have hs48 : w44.cell? ⟨gb587, 1, none⟩ = some (.int .i64 a3_1) := bq BK587 1
   have hfs48 := blk_frozen BK587.out 1
   have hns48_0 := NB585_587.out
   have hns48_1 := NB586_587.out
   have hms48_0 := NB587_585.out
   have hms48_1 := NB587_586.out
   refine skip_ (w1 := ?_) (by rfl) rfl ?_ ?_
   rotate_left
   ·go_simp
    rfl
   refine hK.out _ _ ?_
   clear hK K
   refine done_ (done_of HT_.out (by kernel_rfl)) ?_
   have hnb49 := NB586_587.out
   have hnc49 := NB587_586.out
   obtain ⟨hcz50_0, hcz50_1, hfz50_0, hfz50_1⟩ := bc2 BK586
   obtain ⟨hcz51_0, hcz51_1, hfz51_0, hfz51_1⟩ := bc2 BK587
   try go_wp2_with (first | ((with_reducible refine gate_dst (N := 11) rfl ?_); (try (refine gate_guard (by rfl) ?_; dsimp only)); refine bE (N := 11) (cs := #[.int .i64 0, .int .i64 0, .int .i64 0, .int .i64 0]) (t := 44) ?_; intro gb597 hg w52 hbox hb; have BK597 := bA (hbox); have GW597 := bA (bZ hg); have GE597 := bA (bZ hg); have NB585_597 := bA ((by rw [hg]; exact Nat.ne_of_lt (blk_lt (g := gb585) (o := .cells #[.int .i64 a0_0, .int .i64 a0_1, .int .i64 a0_2, .int .i64 a0_3] 44 (0, 0)) (by (repeat ((with_reducible repeat (first | refine blk_drewN ?_ _ | refine blk_drew ?_ | refine blk_alloc ?_ _)); refine blk_far ?_ NB585_587.out _)); (repeat ((with_reducible repeat (first | refine blk_drewN ?_ _ | refine blk_drew ?_ | refine blk_alloc ?_ _)); refine blk_far ?_ NB585_586.out _)); (with_reducible repeat (first | refine blk_drewN ?_ _ | refine blk_drew ?_ | refine blk_alloc ?_ _)); exact BK585.out)) : gb585 ≠ gb597)); have NB597_585 := bA ((by rw [hg]; exact Nat.ne_of_gt (blk_lt (g := gb585) (o := .cells #[.int .i64 a0_0, .int .i64 a0_1, .int .i64 a0_2, .int .i64 a0_3] 44 (0, 0)) (by (repeat ((with_reducible repeat (first | refine blk_drewN ?_ _ | refine blk_drew ?_ | refine blk_alloc ?_ _)); refine blk_far ?_ NB585_587.out _)); (repeat ((with_reducible repeat (first | refine blk_drewN ?_ _ | refine blk_drew ?_ | refine blk_alloc ?_ _)); refine blk_far ?_ NB585_586.out _)); (with_reducible repeat (first | refine blk_drewN ?_ _ | refine blk_drew ?_ | refine blk_alloc ?_ _)); exact BK585.out)) : gb597 ≠ gb585)); have NB586_597 := bA ((by rw [hg]; exact Nat.ne_of_lt (blk_lt (g := gb586) (o := .cells #[.int .i64 t593, .int .i64 t594] 41 (0, 0)) (by (repeat ((with_reducible repeat (first | refine blk_drewN ?_ _ | refine blk_drew ?_ | refine blk_alloc ?_ _)); refine blk_far ?_ NB586_587.out _)); (with_reducible repeat (first | refine blk_drewN ?_ _ | refine blk_drew ?_ | refine blk_alloc ?_ _)); refine blk_put (cs := #[.int .i64 t593, .int .i64 a2_1]) ?_ 1 _ rfl; (with_reducible repeat (first | refine blk_drewN ?_ _ | refine blk_drew ?_ | refine blk_alloc ?_ _)); refine blk_put (cs := #[.int .i64 a2_0, .int .i64 a2_1]) ?_ 0 _ rfl; (with_reducible repeat (first | refine blk_drewN ?_ _ | refine blk_drew ?_ | refine blk_alloc ?_ _)); exact BK586.out)) : gb586 ≠ gb597)); have NB597_586 := bA ((by rw [hg]; exact Nat.ne_of_gt (blk_lt (g := gb586) (o := .cells #[.int .i64 t593, .int .i64 t594] 41 (0, 0)) (by (repeat ((with_reducible repeat (first | refine blk_drewN ?_ _ | refine blk_drew ?_ | refine blk_alloc ?_ _)); refine blk_far ?_ NB586_587.out _)); (with_reducible repeat (first | refine blk_drewN ?_ _ | refine blk_drew ?_ | refine blk_alloc ?_ _)); refine blk_put (cs := #[.int .i64 t593, .int .i64 a2_1]) ?_ 1 _ rfl; (with_reducible repeat (first | refine blk_drewN ?_ _ | refine blk_drew ?_ | refine blk_alloc ?_ _)); refine blk_put (cs := #[.int .i64 a2_0, .int .i64 a2_1]) ?_ 0 _ rfl; (with_reducible repeat (first | refine blk_drewN ?_ _ | refine blk_drew ?_ | refine blk_alloc ?_ _)); exact BK586.out)) : gb597 ≠ gb586)); have NB587_597 := bA ((by rw [hg]; exact Nat.ne_of_lt (blk_lt (g := gb587) (o := .cells #[.int .i64 t595, .int .i64 t596] 41 (0, 0)) (by (with_reducible repeat (first | refine blk_drewN ?_ _ | refine blk_drew ?_ | refine blk_alloc ?_ _)); refine blk_put (cs := #[.int .i64 t595, .int .i64 a3_1]) ?_ 1 _ rfl; (with_reducible repeat (first | refine blk_drewN ?_ _ | refine blk_drew ?_ | refine blk_alloc ?_ _)); refine blk_put (cs := #[.int .i64 a3_0, .int .i64 a3_1]) ?_ 0 _ rfl; (repeat ((with_reducible repeat (first | refine blk_drewN ?_ _ | refine blk_drew ?_ | refine blk_alloc ?_ _)); refine blk_far ?_ NB587_586.out _)); (with_reducible repeat (first | refine blk_drewN ?_ _ | refine blk_drew ?_ | refine blk_alloc ?_ _)); exact BK587.out)) : gb587 ≠ gb597)); have NB597_587 := bA ((by rw [hg]; exact Nat.ne_of_gt (blk_lt (g := gb587) (o := .cells #[.int .i64 t595, .int .i64 t596] 41 (0, 0)) (by (with_reducible repeat (first | refine blk_drewN ?_ _ | refine blk_drew ?_ | refine blk_alloc ?_ _)); refine blk_put (cs := #[.int .i64 t595, .int .i64 a3_1]) ?_ 1 _ rfl; (with_reducible repeat (first | refine blk_drewN ?_ _ | refine blk_drew ?_ | refine blk_alloc ?_ _)); refine blk_put (cs := #[.int .i64 a3_0, .int .i64 a3_1]) ?_ 0 _ rfl; (repeat ((with_reducible repeat (first | refine blk_drewN ?_ _ | refine blk_drew ?_ | refine blk_alloc ?_ _)); refine blk_far ?_ NB587_586.out _)); (with_reducible repeat (first | refine blk_drewN ?_ _ | refine blk_drew ?_ | refine blk_alloc ?_ _)); exact BK587.out)) : gb597 ≠ gb587)); replace BK585 := bA (blk_below (g := gb585) (o := .cells #[.int .i64 a0_0, .int .i64 a0_1, .int .i64 a0_2, .int .i64 a0_3] 44 (0, 0)) (by (repeat ((with_reducible repeat (first | refine blk_drewN ?_ _ | refine blk_drew ?_ | refine blk_alloc ?_ _)); refine blk_far ?_ NB585_587.out _)); (repeat ((with_reducible repeat (first | refine blk_drewN ?_ _ | refine blk_drew ?_ | refine blk_alloc ?_ _)); refine blk_far ?_ NB585_586.out _)); (with_reducible repeat (first | refine blk_drewN ?_ _ | refine blk_drew ?_ | refine blk_alloc ?_ _)); exact BK585.out) hb); replace BK586 := bA (blk_below (g := gb586) (o := .cells #[.int .i64 t593, .int .i64 t594] 41 (0, 0)) (by (repeat ((with_reducible repeat (first | refine blk_drewN ?_ _ | refine blk_drew ?_ | refine blk_alloc ?_ _)); refine blk_far ?_ NB586_587.out _)); (with_reducible repeat (first | refine blk_drewN ?_ _ | refine blk_drew ?_ | refine blk_alloc ?_ _)); refine blk_put (cs := #[.int .i64 t593, .int .i64 a2_1]) ?_ 1 _ rfl; (with_reducible repeat (first | refine blk_drewN ?_ _ | refine blk_drew ?_ | refine blk_alloc ?_ _)); refine blk_put (cs := #[.int .i64 a2_0, .int .i64 a2_1]) ?_ 0 _ rfl; (with_reducible repeat (first | refine blk_drewN ?_ _ | refine blk_drew ?_ | refine blk_alloc ?_ _)); exact BK586.out) hb); replace BK587 := bA (blk_below (g := gb587) (o := .cells #[.int .i64 t595, .int .i64 t596] 41 (0, 0)) (by (with_reducible repeat (first | refine blk_drewN ?_ _ | refine blk_drew ?_ | refine blk_alloc ?_ _)); refine blk_put (cs := #[.int .i64 t595, .int .i64 a3_1]) ?_ 1 _ rfl; (with_reducible repeat (first | refine blk_drewN ?_ _ | refine blk_drew ?_ | refine blk_alloc ?_ _)); refine blk_put (cs := #[.int .i64 a3_0, .int .i64 a3_1]) ?_ 0 _ rfl; (repeat ((with_reducible repeat (first | refine blk_drewN ?_ _ | refine blk_drew ?_ | refine blk_alloc ?_ _)); refine blk_far ?_ NB587_586.out _)); (with_reducible repeat (first | refine blk_drewN ?_ _ | refine blk_drew ?_ | refine blk_alloc ?_ _)); exact BK587.out) hb); replace HB := bA (bS hb); clear hb hbox hg; have hnb53 := NB597_585.out; have hnc53 := NB585_597.out; have hnb54 := NB597_586.out; have hnc54 := NB586_597.out; have hnb55 := NB597_587.out; have hnc55 := NB587_597.out; obtain ⟨hcz56_0, hcz56_1, hcz56_2, hcz56_3, hfz56_0, hfz56_1, hfz56_2, hfz56_3⟩ := bc4 BK597; obtain ⟨hcz57_0, hcz57_1, hcz57_2, hcz57_3, hfz57_0, hfz57_1, hfz57_2, hfz57_3⟩ := bc4 BK585) | ((first | ((with_reducible refine gate_callee (f := 51) rfl ?_); refine goesL_ (some 65) rfl rfl Try.func51 (by kernel_rfl) rfl #[.agg #[.int .i64 ji31, .int .i64 ji32, .int .i64 ji33, .int .i64 ji34], .agg #[.int .i64 a0_0, .int .i64 a0_1, .int .i64 a0_2, .int .i64 a0_3]] rfl (by (try simp only [List.map_toArray, List.map_cons, List.map_nil]); first | done | (simp only [hji31, hji32, hji33, hji34]; rfl) | rfl | (simp only [List.length_drop, List.length_take]; rfl)) ?_) | go_at_call 51); (with_reducible refine (box_In.calls ji31 ji32 ji33 ji34 a0_0 a0_1 a0_2 a0_3 true _ A35.out).mono ?_); rintro e w58 ⟨rfl, hb⟩; (first | refine ⟨_, rfl, ?_⟩ | skip); replace BK585 := bA (blk_below (g := gb585) (o := .cells #[.int .i64 a0_0, .int .i64 a0_1, .int .i64 a0_2, .int .i64 a0_3] 44 (0, 0)) (by (repeat ((with_reducible repeat (first | refine blk_drewN ?_ _ | refine blk_drew ?_ | refine blk_alloc ?_ _)); refine blk_far ?_ NB585_597.out _)); (with_reducible repeat (first | refine blk_drewN ?_ _ | refine blk_drew ?_ | refine blk_alloc ?_ _)); exact BK585.out) hb); replace BK586 := bA (blk_below (g := gb586) (o := .cells #[.int .i64 t593, .int .i64 t594] 41 (0, 0)) (by (repeat ((with_reducible repeat (first | refine blk_drewN ?_ _ | refine blk_drew ?_ | refine blk_alloc ?_ _)); refine blk_far ?_ NB586_597.out _)); (with_reducible repeat (first | refine blk_drewN ?_ _ | refine blk_drew ?_ | refine blk_alloc ?_ _)); exact BK586.out) hb); replace BK587 := bA (blk_below (g := gb587) (o := .cells #[.int .i64 t595, .int .i64 t596] 41 (0, 0)) (by (repeat ((with_reducible repeat (first | refine blk_drewN ?_ _ | refine blk_drew ?_ | refine blk_alloc ?_ _)); refine blk_far ?_ NB587_597.out _)); (with_reducible repeat (first | refine blk_drewN ?_ _ | refine blk_drew ?_ | refine blk_alloc ?_ _)); exact BK587.out) hb); replace BK597 := bA (blk_below (g := gb597) (o := .cells #[.int .i64 ji31, .int .i64 ji32, .int .i64 ji33, .int .i64 ji34] 44 (0, 0)) (by (with_reducible repeat (first | refine blk_drewN ?_ _ | refine blk_drew ?_ | refine blk_alloc ?_ _)); refine blk_put (cs := #[.int .i64 ji31, .int .i64 ji32, .int .i64 ji33, .int .i64 0]) ?_ 3 _ rfl; (with_reducible repeat (first | refine blk_drewN ?_ _ | refine blk_drew ?_ | refine blk_alloc ?_ _)); refine blk_put (cs := #[.int .i64 ji31, .int .i64 ji32, .int .i64 0, .int .i64 0]) ?_ 2 _ rfl; (with_reducible repeat (first | refine blk_drewN ?_ _ | refine blk_drew ?_ | refine blk_alloc ?_ _)); refine blk_put (cs := #[.int .i64 ji31, .int .i64 0, .int .i64 0, .int .i64 0]) ?_ 1 _ rfl; (with_reducible repeat (first | refine blk_drewN ?_ _ | refine blk_drew ?_ | refine blk_alloc ?_ _)); refine blk_put (cs := #[.int .i64 0, .int .i64 0, .int .i64 0, .int .i64 0]) ?_ 0 _ rfl; (with_reducible repeat (first | refine blk_drewN ?_ _ | refine blk_drew ?_ | refine blk_alloc ?_ _)); exact BK597.out) hb); replace HB := bA (bS hb); (try clear hb)))
   go_ret
   exact ⟨by first | rfl | (simp [errW_none, errW_some] <;> rfl) | (simp only [← hji31, ← hji32, ← hji33, ← hji34]; first | rfl | (simp [errW_none, errW_some] <;> rfl)) | (simp [*, errW_none, errW_some] <;> rfl), by repeat (first | (with_reducible first | exact HB.out | apply below_alloc | apply pw_below_drewN | apply below_drew1 | refine below_set ?_ GE585.out | refine below_set ?_ GE586.out | refine below_set ?_ GE587.out | refine below_set ?_ GE597.out) | exact HB.out)⟩
  rw [if_neg c37] at H
  have c37b0 : (t592 == 0) = false := beq_eq_false_iff_ne.mpr c37
  have c37b1 : (t592 != 0) = true := bne_iff_ne.mpr c37
  replace H := Option.bind_eq_some_iff.mp H
  obtain ⟨t599, A590, H⟩ := H
  have A59 := bA A590
  clear A590
  by_cases c60 : t599 = t592
  rotate_left
  ·rw [if_neg c60] at H
   exact absurd H (by simp)
  rw [if_pos c60] at H
  have c60b0 : (t599 == t592) = true := beq_iff_eq.mpr c60
  have c60b1 : (t599 != t592) = false := bne_eq_false_iff_eq.mpr c60
  clear c60
  replace H := Option.bind_eq_some_iff.mp H
  obtain ⟨t600, A610, H⟩ := H
  have A61 := bA A610
  clear A610
  by_cases c62 : t600 = t592
  rotate_left
  ·rw [if_neg c62] at H
   exact absurd H (by simp)
  rw [if_pos c62] at H
  have c62b0 : (t600 == t592) = true := beq_iff_eq.mpr c62
  have c62b1 : (t600 != t592) = false := bne_eq_false_iff_eq.mpr c62
  clear c62
  replace H := Option.bind_eq_some_iff.mp H
  obtain ⟨t601, A630, H⟩ := H
  have A63 := bA A630
  clear A630
  obtain rfl := Option.some.inj H
  have hnb64 := NB585_586.out
  have hnc64 := NB586_585.out
  have hnb65 := NB585_587.out
  have hnc65 := NB587_585.out
  obtain ⟨hcz66_0, hcz66_1, hcz66_2, hcz66_3, hfz66_0, hfz66_1, hfz66_2, hfz66_3⟩ := bc4 BK585
  try go_wp2_with (first | ((first | ((with_reducible refine gate_callee (f := 47) rfl ?_); refine bC (some 32) Try.func47 #[.agg #[.int .i64 a0_0, .int .i64 a0_1, .int .i64 a0_2, .int .i64 a0_3], .slice A1 l1.length c1] ?_) | go_at_call 47); (with_reducible refine (box_Relate.calls kj4 a0_0 a0_1 a0_2 a0_3 _ _ l1 t592 _ ?side1 ?side2 A28.out).mono ?_); (case side1 => exact bQ HR1); (case side2 => exact HC1.out); rintro e w67 ⟨rfl, hb⟩; (first | refine ⟨_, rfl, ?_⟩ | skip); replace BK585 := bA (bB BK585 hb); replace BK586 := bA (bB BK586 hb); replace BK587 := bA (bB BK587 hb); replace HB := bA (bS hb); (try clear hb)))
  replace BK585 := bA (blk_drew BK585.out)
  replace BK586 := bA (blk_drew BK586.out)
  replace BK587 := bA (blk_drew BK587.out)
  replace HB := bA (below_drew1 HB.out)
  refine start_ (n := 8) (S := fun w' => w'.cell? ⟨gb586, 0, none⟩ = some (.int .i64 a2_0) ∧ w'.cell? ⟨gb586, 1, none⟩ = some (.int .i64 a2_1) ∧ w'.cell? ⟨gb587, 0, none⟩ = some (.int .i64 a3_0) ∧ w'.cell? ⟨gb587, 1, none⟩ = some (.int .i64 a3_1)) (ds := [6, 7]) #[false,false,false,false,false,false,false,false] (by kernel_rfl) rfl rfl ⟨bq BK586 0, bq BK586 1, bq BK587 0, bq BK587 1⟩ (fun hHeld => ?_); refine with_tabW apogeelaw12_BoxStays.tab5 apogeelaw12_BoxStays.bits5 (fun HT_ HW_ => ?_)
  generalize w67.drew = w68 at BK585 BK586 BK587 HB hHeld ⊢
  refine bU (i := 0) (N := some 34) ?_
  refine bU (i := 3) (N := some 37) ?_
  refine bW (i := 1) (N := some 35) hHeld ?_
  refine bW (i := 4) (N := some 38) hHeld ?_
  refine one_ (i := 2) (N := some 36) #[true,true,true,true,true,false,false,false] rfl rfl (one_of HT_.out (by kernel_rfl)) (by decide) (fun K hK => ?_)
  refine goesT_ Try.func50 (by kernel_rfl) rfl #[.agg #[.int .i64 a2_0, .int .i64 a2_1], .pointer (some ⟨gb585, 0, none⟩)] (by rfl) rfl rfl (by rfl) (by first | rfl | (simp only [List.map_toArray, List.map_cons, List.map_nil, List.append_toArray, List.cons_append, List.nil_append]; rfl)) ?_
  with_reducible refine (apogeelaw12_BoxStays_1.calls a2_0 a2_1 gb585 a0_0 a0_1 a0_2 a0_3 t593 t594 _ ?side1 A29.out).mono ?_
  (case side1 => exact (bP BK585))
  rintro e w69 ⟨rfl, hb⟩
  refine ⟨_, rfl, ?_⟩
  replace BK585 := bA (bB BK585 hb)
  replace BK586 := bA (bB BK586 hb)
  replace BK587 := bA (bB BK587 hb)
  replace HB := bA (bS hb)
  (try clear hb)
  refine hK.out _ _ ⟨bq BK586 0, bq BK586 1, bq BK587 0, bq BK587 1⟩ (fun hHeld => ?_)
  clear hK K
  refine bH ?_
  refine one_ (i := 5) (N := some 39) #[true,true,true,true,true,true,false,false] rfl rfl (one_of HT_.out (by kernel_rfl)) (by decide) (fun K hK => ?_)
  refine goesT_ Try.func50 (by kernel_rfl) rfl #[.agg #[.int .i64 a3_0, .int .i64 a3_1], .pointer (some ⟨gb585, 0, none⟩)] (by rfl) rfl rfl (by rfl) (by first | rfl | (simp only [List.map_toArray, List.map_cons, List.map_nil, List.append_toArray, List.cons_append, List.nil_append]; rfl)) ?_
  with_reducible refine (apogeelaw12_BoxStays_1.calls a3_0 a3_1 gb585 a0_0 a0_1 a0_2 a0_3 t595 t596 _ ?side1 A30.out).mono ?_
  (case side1 => exact (bP BK585))
  rintro e w70 ⟨rfl, hb⟩
  refine ⟨_, rfl, ?_⟩
  replace BK585 := bA (bB BK585 hb)
  replace BK586 := bA (bB BK586 hb)
  replace BK587 := bA (bB BK587 hb)
  replace HB := bA (bS hb)
  (try clear hb)
  refine hK.out _ _ ⟨bq BK586 0, bq BK586 1, bq BK587 0, bq BK587 1⟩ (fun hHeld => ?_)
  clear hK K
  refine bH ?_
  refine last_ (i := 6) (N := none) #[true,true,true,true,true,true,true,false] rfl rfl (one_of HT_.out (by kernel_rfl)) (by decide) (fun K hK => ?_)
  have hs71 : w70.cell? ⟨gb586, 0, none⟩ = some (.int .i64 a2_0) := bq BK586 0
  have hfs71 := blk_frozen BK586.out 0
  have hns71_0 := NB585_586.out
  have hns71_2 := NB587_586.out
  have hms71_0 := NB586_585.out
  have hms71_2 := NB586_587.out
  have hs72 : w70.cell? ⟨gb586, 1, none⟩ = some (.int .i64 a2_1) := bq BK586 1
  have hfs72 := blk_frozen BK586.out 1
  have hns72_0 := NB585_586.out
  have hns72_2 := NB587_586.out
  have hms72_0 := NB586_585.out
  have hms72_2 := NB586_587.out
  refine skip_ (w1 := ?_) (by rfl) rfl ?_ ?_
  rotate_left
  ·go_simp
   rfl
  refine hK.out _ _ ?_
  clear hK K
  refine last_ (i := 7) (N := none) #[true,true,true,true,true,true,true,true] rfl rfl (one_of HT_.out (by kernel_rfl)) (by decide) (fun K hK => ?_)
  have hs73 : w70.cell? ⟨gb587, 0, none⟩ = some (.int .i64 a3_0) := bq BK587 0
  have hfs73 := blk_frozen BK587.out 0
  have hns73_0 := NB585_587.out
  have hns73_1 := NB586_587.out
  have hms73_0 := NB587_585.out
  have hms73_1 := NB587_586.out
  have hs74 : w70.cell? ⟨gb587, 1, none⟩ = some (.int .i64 a3_1) := bq BK587 1
  have hfs74 := blk_frozen BK587.out 1
  have hns74_0 := NB585_587.out
  have hns74_1 := NB586_587.out
  have hms74_0 := NB587_585.out
  have hms74_1 := NB587_586.out
  refine skip_ (w1 := ?_) (by rfl) rfl ?_ ?_
  rotate_left
  ·go_simp
   rfl
  refine hK.out _ _ ?_
  clear hK K
  refine done_ (done_of HT_.out (by kernel_rfl)) ?_
  have hnb75 := NB586_587.out
  have hnc75 := NB587_586.out
  obtain ⟨hcz76_0, hcz76_1, hfz76_0, hfz76_1⟩ := bc2 BK586
  obtain ⟨hcz77_0, hcz77_1, hfz77_0, hfz77_1⟩ := bc2 BK587
  try go_wp2_with (first | ((with_reducible refine gate_dst (N := 11) rfl ?_); (try (refine gate_guard (by rfl) ?_; dsimp only)); refine bE (N := 11) (cs := #[.int .i64 0, .int .i64 0, .int .i64 0, .int .i64 0]) (t := 44) ?_; intro gb597 hg w78 hbox hb; have BK597 := bA (hbox); have GW597 := bA (bZ hg); have GE597 := bA (bZ hg); have NB585_597 := bA ((by rw [hg]; exact Nat.ne_of_lt (blk_lt (g := gb585) (o := .cells #[.int .i64 a0_0, .int .i64 a0_1, .int .i64 a0_2, .int .i64 a0_3] 44 (0, 0)) (by (repeat ((with_reducible repeat (first | refine blk_drewN ?_ _ | refine blk_drew ?_ | refine blk_alloc ?_ _)); refine blk_far ?_ NB585_587.out _)); (repeat ((with_reducible repeat (first | refine blk_drewN ?_ _ | refine blk_drew ?_ | refine blk_alloc ?_ _)); refine blk_far ?_ NB585_586.out _)); (with_reducible repeat (first | refine blk_drewN ?_ _ | refine blk_drew ?_ | refine blk_alloc ?_ _)); exact BK585.out)) : gb585 ≠ gb597)); have NB597_585 := bA ((by rw [hg]; exact Nat.ne_of_gt (blk_lt (g := gb585) (o := .cells #[.int .i64 a0_0, .int .i64 a0_1, .int .i64 a0_2, .int .i64 a0_3] 44 (0, 0)) (by (repeat ((with_reducible repeat (first | refine blk_drewN ?_ _ | refine blk_drew ?_ | refine blk_alloc ?_ _)); refine blk_far ?_ NB585_587.out _)); (repeat ((with_reducible repeat (first | refine blk_drewN ?_ _ | refine blk_drew ?_ | refine blk_alloc ?_ _)); refine blk_far ?_ NB585_586.out _)); (with_reducible repeat (first | refine blk_drewN ?_ _ | refine blk_drew ?_ | refine blk_alloc ?_ _)); exact BK585.out)) : gb597 ≠ gb585)); have NB586_597 := bA ((by rw [hg]; exact Nat.ne_of_lt (blk_lt (g := gb586) (o := .cells #[.int .i64 t593, .int .i64 t594] 41 (0, 0)) (by (repeat ((with_reducible repeat (first | refine blk_drewN ?_ _ | refine blk_drew ?_ | refine blk_alloc ?_ _)); refine blk_far ?_ NB586_587.out _)); (with_reducible repeat (first | refine blk_drewN ?_ _ | refine blk_drew ?_ | refine blk_alloc ?_ _)); refine blk_put (cs := #[.int .i64 t593, .int .i64 a2_1]) ?_ 1 _ rfl; (with_reducible repeat (first | refine blk_drewN ?_ _ | refine blk_drew ?_ | refine blk_alloc ?_ _)); refine blk_put (cs := #[.int .i64 a2_0, .int .i64 a2_1]) ?_ 0 _ rfl; (with_reducible repeat (first | refine blk_drewN ?_ _ | refine blk_drew ?_ | refine blk_alloc ?_ _)); exact BK586.out)) : gb586 ≠ gb597)); have NB597_586 := bA ((by rw [hg]; exact Nat.ne_of_gt (blk_lt (g := gb586) (o := .cells #[.int .i64 t593, .int .i64 t594] 41 (0, 0)) (by (repeat ((with_reducible repeat (first | refine blk_drewN ?_ _ | refine blk_drew ?_ | refine blk_alloc ?_ _)); refine blk_far ?_ NB586_587.out _)); (with_reducible repeat (first | refine blk_drewN ?_ _ | refine blk_drew ?_ | refine blk_alloc ?_ _)); refine blk_put (cs := #[.int .i64 t593, .int .i64 a2_1]) ?_ 1 _ rfl; (with_reducible repeat (first | refine blk_drewN ?_ _ | refine blk_drew ?_ | refine blk_alloc ?_ _)); refine blk_put (cs := #[.int .i64 a2_0, .int .i64 a2_1]) ?_ 0 _ rfl; (with_reducible repeat (first | refine blk_drewN ?_ _ | refine blk_drew ?_ | refine blk_alloc ?_ _)); exact BK586.out)) : gb597 ≠ gb586)); have NB587_597 := bA ((by rw [hg]; exact Nat.ne_of_lt (blk_lt (g := gb587) (o := .cells #[.int .i64 t595, .int .i64 t596] 41 (0, 0)) (by (with_reducible repeat (first | refine blk_drewN ?_ _ | refine blk_drew ?_ | refine blk_alloc ?_ _)); refine blk_put (cs := #[.int .i64 t595, .int .i64 a3_1]) ?_ 1 _ rfl; (with_reducible repeat (first | refine blk_drewN ?_ _ | refine blk_drew ?_ | refine blk_alloc ?_ _)); refine blk_put (cs := #[.int .i64 a3_0, .int .i64 a3_1]) ?_ 0 _ rfl; (repeat ((with_reducible repeat (first | refine blk_drewN ?_ _ | refine blk_drew ?_ | refine blk_alloc ?_ _)); refine blk_far ?_ NB587_586.out _)); (with_reducible repeat (first | refine blk_drewN ?_ _ | refine blk_drew ?_ | refine blk_alloc ?_ _)); exact BK587.out)) : gb587 ≠ gb597)); have NB597_587 := bA ((by rw [hg]; exact Nat.ne_of_gt (blk_lt (g := gb587) (o := .cells #[.int .i64 t595, .int .i64 t596] 41 (0, 0)) (by (with_reducible repeat (first | refine blk_drewN ?_ _ | refine blk_drew ?_ | refine blk_alloc ?_ _)); refine blk_put (cs := #[.int .i64 t595, .int .i64 a3_1]) ?_ 1 _ rfl; (with_reducible repeat (first | refine blk_drewN ?_ _ | refine blk_drew ?_ | refine blk_alloc ?_ _)); refine blk_put (cs := #[.int .i64 a3_0, .int .i64 a3_1]) ?_ 0 _ rfl; (repeat ((with_reducible repeat (first | refine blk_drewN ?_ _ | refine blk_drew ?_ | refine blk_alloc ?_ _)); refine blk_far ?_ NB587_586.out _)); (with_reducible repeat (first | refine blk_drewN ?_ _ | refine blk_drew ?_ | refine blk_alloc ?_ _)); exact BK587.out)) : gb597 ≠ gb587)); replace BK585 := bA (blk_below (g := gb585) (o := .cells #[.int .i64 a0_0, .int .i64 a0_1, .int .i64 a0_2, .int .i64 a0_3] 44 (0, 0)) (by (repeat ((with_reducible repeat (first | refine blk_drewN ?_ _ | refine blk_drew ?_ | refine blk_alloc ?_ _)); refine blk_far ?_ NB585_587.out _)); (repeat ((with_reducible repeat (first | refine blk_drewN ?_ _ | refine blk_drew ?_ | refine blk_alloc ?_ _)); refine blk_far ?_ NB585_586.out _)); (with_reducible repeat (first | refine blk_drewN ?_ _ | refine blk_drew ?_ | refine blk_alloc ?_ _)); exact BK585.out) hb); replace BK586 := bA (blk_below (g := gb586) (o := .cells #[.int .i64 t593, .int .i64 t594] 41 (0, 0)) (by (repeat ((with_reducible repeat (first | refine blk_drewN ?_ _ | refine blk_drew ?_ | refine blk_alloc ?_ _)); refine blk_far ?_ NB586_587.out _)); (with_reducible repeat (first | refine blk_drewN ?_ _ | refine blk_drew ?_ | refine blk_alloc ?_ _)); refine blk_put (cs := #[.int .i64 t593, .int .i64 a2_1]) ?_ 1 _ rfl; (with_reducible repeat (first | refine blk_drewN ?_ _ | refine blk_drew ?_ | refine blk_alloc ?_ _)); refine blk_put (cs := #[.int .i64 a2_0, .int .i64 a2_1]) ?_ 0 _ rfl; (with_reducible repeat (first | refine blk_drewN ?_ _ | refine blk_drew ?_ | refine blk_alloc ?_ _)); exact BK586.out) hb); replace BK587 := bA (blk_below (g := gb587) (o := .cells #[.int .i64 t595, .int .i64 t596] 41 (0, 0)) (by (with_reducible repeat (first | refine blk_drewN ?_ _ | refine blk_drew ?_ | refine blk_alloc ?_ _)); refine blk_put (cs := #[.int .i64 t595, .int .i64 a3_1]) ?_ 1 _ rfl; (with_reducible repeat (first | refine blk_drewN ?_ _ | refine blk_drew ?_ | refine blk_alloc ?_ _)); refine blk_put (cs := #[.int .i64 a3_0, .int .i64 a3_1]) ?_ 0 _ rfl; (repeat ((with_reducible repeat (first | refine blk_drewN ?_ _ | refine blk_drew ?_ | refine blk_alloc ?_ _)); refine blk_far ?_ NB587_586.out _)); (with_reducible repeat (first | refine blk_drewN ?_ _ | refine blk_drew ?_ | refine blk_alloc ?_ _)); exact BK587.out) hb); replace HB := bA (bS hb); clear hb hbox hg; have hnb79 := NB597_585.out; have hnc79 := NB585_597.out; have hnb80 := NB597_586.out; have hnc80 := NB586_597.out; have hnb81 := NB597_587.out; have hnc81 := NB587_597.out; obtain ⟨hcz82_0, hcz82_1, hcz82_2, hcz82_3, hfz82_0, hfz82_1, hfz82_2, hfz82_3⟩ := bc4 BK597; obtain ⟨hcz83_0, hcz83_1, hcz83_2, hcz83_3, hfz83_0, hfz83_1, hfz83_2, hfz83_3⟩ := bc4 BK585) | ((first | ((with_reducible refine gate_callee (f := 51) rfl ?_); refine goesL_ (some 65) rfl rfl Try.func51 (by kernel_rfl) rfl #[.agg #[.int .i64 ji31, .int .i64 ji32, .int .i64 ji33, .int .i64 ji34], .agg #[.int .i64 a0_0, .int .i64 a0_1, .int .i64 a0_2, .int .i64 a0_3]] rfl (by (try simp only [List.map_toArray, List.map_cons, List.map_nil]); first | done | (simp only [hji31, hji32, hji33, hji34]; rfl) | rfl | (simp only [List.length_drop, List.length_take]; rfl)) ?_) | go_at_call 51); (with_reducible refine (box_In.calls ji31 ji32 ji33 ji34 a0_0 a0_1 a0_2 a0_3 true _ A35.out).mono ?_); rintro e w84 ⟨rfl, hb⟩; (first | refine ⟨_, rfl, ?_⟩ | skip); replace BK585 := bA (blk_below (g := gb585) (o := .cells #[.int .i64 a0_0, .int .i64 a0_1, .int .i64 a0_2, .int .i64 a0_3] 44 (0, 0)) (by (repeat ((with_reducible repeat (first | refine blk_drewN ?_ _ | refine blk_drew ?_ | refine blk_alloc ?_ _)); refine blk_far ?_ NB585_597.out _)); (with_reducible repeat (first | refine blk_drewN ?_ _ | refine blk_drew ?_ | refine blk_alloc ?_ _)); exact BK585.out) hb); replace BK586 := bA (blk_below (g := gb586) (o := .cells #[.int .i64 t593, .int .i64 t594] 41 (0, 0)) (by (repeat ((with_reducible repeat (first | refine blk_drewN ?_ _ | refine blk_drew ?_ | refine blk_alloc ?_ _)); refine blk_far ?_ NB586_597.out _)); (with_reducible repeat (first | refine blk_drewN ?_ _ | refine blk_drew ?_ | refine blk_alloc ?_ _)); exact BK586.out) hb); replace BK587 := bA (blk_below (g := gb587) (o := .cells #[.int .i64 t595, .int .i64 t596] 41 (0, 0)) (by (repeat ((with_reducible repeat (first | refine blk_drewN ?_ _ | refine blk_drew ?_ | refine blk_alloc ?_ _)); refine blk_far ?_ NB587_597.out _)); (with_reducible repeat (first | refine blk_drewN ?_ _ | refine blk_drew ?_ | refine blk_alloc ?_ _)); exact BK587.out) hb); replace BK597 := bA (blk_below (g := gb597) (o := .cells #[.int .i64 ji31, .int .i64 ji32, .int .i64 ji33, .int .i64 ji34] 44 (0, 0)) (by (with_reducible repeat (first | refine blk_drewN ?_ _ | refine blk_drew ?_ | refine blk_alloc ?_ _)); refine blk_put (cs := #[.int .i64 ji31, .int .i64 ji32, .int .i64 ji33, .int .i64 0]) ?_ 3 _ rfl; (with_reducible repeat (first | refine blk_drewN ?_ _ | refine blk_drew ?_ | refine blk_alloc ?_ _)); refine blk_put (cs := #[.int .i64 ji31, .int .i64 ji32, .int .i64 0, .int .i64 0]) ?_ 2 _ rfl; (with_reducible repeat (first | refine blk_drewN ?_ _ | refine blk_drew ?_ | refine blk_alloc ?_ _)); refine blk_put (cs := #[.int .i64 ji31, .int .i64 0, .int .i64 0, .int .i64 0]) ?_ 1 _ rfl; (with_reducible repeat (first | refine blk_drewN ?_ _ | refine blk_drew ?_ | refine blk_alloc ?_ _)); refine blk_put (cs := #[.int .i64 0, .int .i64 0, .int .i64 0, .int .i64 0]) ?_ 0 _ rfl; (with_reducible repeat (first | refine blk_drewN ?_ _ | refine blk_drew ?_ | refine blk_alloc ?_ _)); exact BK597.out) hb); replace HB := bA (bS hb); (try clear hb); obtain ⟨hcz85_0, hcz85_1, hcz85_2, hcz85_3, hfz85_0, hfz85_1, hfz85_2, hfz85_3⟩ := bc4 BK597) | ((first | ((with_reducible refine gate_callee (f := 47) rfl ?_); refine goesL_ (some 71) rfl rfl Try.func47 (by kernel_rfl) rfl #[.agg #[.int .i64 ji31, .int .i64 ji32, .int .i64 ji33, .int .i64 ji34], .slice A1 l1.length c1] rfl (by (try simp only [List.map_toArray, List.map_cons, List.map_nil]); first | done | (simp only [hji31, hji32, hji33, hji34]; rfl) | rfl | (simp only [List.length_drop, List.length_take]; rfl)) ?_) | go_at_call 47); (with_reducible refine (box_Relate.calls kj4 ji31 ji32 ji33 ji34 _ _ l1 t599 _ ?side1 ?side2 A59.out).mono ?_); (case side1 => exact bQ HR1); (case side2 => exact HC1.out); rintro e w86 ⟨rfl, hb⟩; (first | refine ⟨_, rfl, ?_⟩ | skip); replace BK585 := bA (bB BK585 hb); replace BK586 := bA (bB BK586 hb); replace BK587 := bA (bB BK587 hb); replace BK597 := bA (bB BK597 hb); replace HB := bA (bS hb); (try clear hb); obtain ⟨hcz87_0, hcz87_1, hfz87_0, hfz87_1⟩ := bc2 BK586) | (go_at_call 32; (with_reducible refine (poly_Side.calls kj4 _ _ l1 t593 t594 t600 _ ?side1 ?side2 A61.out).mono ?_); (case side1 => exact bQ HR1); (case side2 => exact HC1.out); rintro e w88 ⟨rfl, hb⟩; replace BK585 := bA (bB BK585 hb); replace BK586 := bA (bB BK586 hb); replace BK587 := bA (bB BK587 hb); replace BK597 := bA (bB BK597 hb); replace HB := bA (bS hb); (try clear hb); obtain ⟨hcz89_0, hcz89_1, hfz89_0, hfz89_1⟩ := bc2 BK587) | (go_at_call 32; (with_reducible refine (poly_Side.calls kj4 _ _ l1 t595 t596 t601 _ ?side1 ?side2 A63.out).mono ?_); (case side1 => exact bQ HR1); (case side2 => exact HC1.out); rintro e w90 ⟨rfl, hb⟩; replace BK585 := bA (bB BK585 hb); replace BK586 := bA (bB BK586 hb); replace BK587 := bA (bB BK587 hb); replace BK597 := bA (bB BK597 hb); replace HB := bA (bS hb); (try clear hb)))
  go_ret
  exact ⟨by first | rfl | (simp [errW_none, errW_some] <;> rfl) | (simp only [← hji31, ← hji32, ← hji33, ← hji34]; first | rfl | (simp [errW_none, errW_some] <;> rfl)) | (simp [*, errW_none, errW_some] <;> rfl), by repeat (first | (with_reducible first | exact HB.out | apply below_alloc | apply pw_below_drewN | apply below_drew1 | refine below_set ?_ GE585.out | refine below_set ?_ GE586.out | refine below_set ?_ GE587.out | refine below_set ?_ GE597.out) | exact HB.out)⟩
end Go.Proofs.Ytjmibjmlihmglaa.G
