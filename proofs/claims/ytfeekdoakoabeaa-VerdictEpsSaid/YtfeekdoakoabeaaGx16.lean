-- Written by a program of this session out of the translation; Lean checks it.
import Derived.Test.YtfeekdoakoabeaaGx0
import Derived.Test.YtfeekdoakoabeaaGx5
import Derived.Test.YtfeekdoakoabeaaGx7
import Derived.Test.YtfeekdoakoabeaaGx8
import Derived.Test.YtfeekdoakoabeaaGx15
namespace Go.Proofs.Ytfeekdoakoabeaa.G
open Go.RowKit Go.Proofs.YtfeekdoakoabeaaW.PrintWords Go.Proofs.YtfeekdoakoabeaaW.PrintLast Go.Proofs.YtfeekdoakoabeaaW.PrintMore
attribute [local go_sem] max2_int min2_int max_two min_two max_three min_three max_four min_four   -- for this text's walks alone
set_option linter.unusedVariables false
set_option linter.unusedSimpArgs false

/-! ### verdict_Of: function 16 -/
def verdict_Of.j0 : Nat → Int → Int → Bool → Option (Int)
 | 0, _, _, _ => none
 | k + 1, x9, x10, x30 => if x30 = true then (some 3) else (if x9 > 0 then (if x10 > 0 then (some 1) else (some 2)) else (some 2))
def verdict_Of.f (k : Nat) (a0_0 : Int) (a0_1 : Int) (a0_2 : Int) (a0_3 : Int) (a0_4 : Int) (a0_5 : Int) (a0_6 : Int) (a0_7 : Int) (l1_0 : List (S28)) (a1_1 : Int) (a1_2 : Int) (a1_3 : Int) (a1_4 : Int) (a2 : Int) : Option (Int) := (impact_Box.f k a0_0 a0_1 a0_2 a0_3 a0_4 a0_5 a0_6 a0_7 a1_1 a2).bind fun bt359 => (if bt359.2.2.2.2 = true then ((verdict_Speed.f k a0_0 a0_1 a0_2 a0_3 a0_4 a0_5 a0_6 a0_7 a1_2 a2).bind fun t365 => ((verdict_Place.f k a0_0 a0_1 a0_2 a0_3 a0_4 a0_5 a0_6 a0_7 l1_0 a1_1 a1_2 a1_3 a1_4 a2).bind fun t366 => (if t365 < 0 then (verdict_Of.j0 k t365 t366 true) else (verdict_Of.j0 k t365 t366 (decide (t366 < 0)))))) else (some 4))
theorem verdict_Of.mono_l : ∀ k, (∀ y0 y1 y2, LeO (verdict_Of.j0 k y0 y1 y2) (verdict_Of.j0 (k + 1) y0 y1 y2))
 | 0 => fun _ _ _ r h => by simp [verdict_Of.j0] at h
 | k + 1 => by
  have ih0 := verdict_Of.mono_l k
  ·intro y0 y1 y2
   unfold verdict_Of.j0
   have m0_ := @impact_Box.mono
   have m1_ := @verdict_Place.mono
   have m2_ := @verdict_Speed.mono
   exact bMo
theorem verdict_Of.mono : ∀ a0 a1 a2 a3 a4 a5 a6 a7 a8 a9 a10 a11 a12 a13 k, LeO (verdict_Of.f k a0 a1 a2 a3 a4 a5 a6 a7 a8 a9 a10 a11 a12 a13) (verdict_Of.f (k + 1) a0 a1 a2 a3 a4 a5 a6 a7 a8 a9 a10 a11 a12 a13) := by
 intro a0 a1 a2 a3 a4 a5 a6 a7 a8 a9 a10 a11 a12 a13 k
 have ih0 := verdict_Of.mono_l k
 unfold verdict_Of.f
 have m0_ := @impact_Box.mono
 have m1_ := @verdict_Place.mono
 have m2_ := @verdict_Speed.mono
 exact bMo
def verdict_Of.T4 : Bool × List (List Nat × List Nat) := (true, [([], []), ([], []), ([1], [1]), ([], []), ([0, 2, 3], [0, 2, 3]), ([], []), ([], []), ([], []), ([5, 6, 7, 4], [5, 6, 7]), ([4, 8, 0, 1, 2, 3, 4], [4]), ([8, 9, 0, 1, 2, 3, 4, 5, 6, 7, 8, 9], [8])])
def verdict_Of.B4 : List Nat := [0, 0, 2, 0, 15, 0, 0, 0, 255, 511, 1023]
theorem verdict_Of.tab4 : rtab .any (opsOf Try.f16 4) = verdict_Of.T4 := by kernel_rfl
theorem verdict_Of.bits4 : waitsOk verdict_Of.T4.2 verdict_Of.B4 = true := by kernel_rfl
set_option maxHeartbeats 8000000 in
set_option maxRecDepth 100000 in
theorem verdict_Of.calls (k : Nat) (a0_0 : Int) (a0_1 : Int) (a0_2 : Int) (a0_3 : Int) (a0_4 : Int) (a0_5 : Int) (a0_6 : Int) (a0_7 : Int) (A1_0 : Option Addr) (c1_0 : Nat) (l1_0 : List (S28)) (a1_1 : Int) (a1_2 : Int) (a1_3 : Int) (a1_4 : Int) (a2 : Int) (r : Int) (w : World) (hr1_0 : Kd.C k28 w A1_0 l1_0.length l1_0) (hc1_0 : l1_0.length ≤ c1_0) (h : verdict_Of.f k a0_0 a0_1 a0_2 a0_3 a0_4 a0_5 a0_6 a0_7 l1_0 a1_1 a1_2 a1_3 a1_4 a2 = some r) :
  Calls Try.prog 16 #[.agg #[.int .i64 a0_0, .int .i64 a0_1, .int .i64 a0_2, .int .i64 a0_3, .int .i64 a0_4, .int .i64 a0_5, .int .i64 a0_6, .int .i64 a0_7], .agg #[.slice A1_0 l1_0.length c1_0, .int .i64 a1_1, .int .i64 a1_2, .int .i64 a1_3, .int .i64 a1_4], .int .i64 a2] w fun e w' => e = .returned (.int .i64 r) ∧ Below w.heap.size w w' := by
 have hu23 := Try.underlying23
 have hu42 := Try.underlying42
 have hu30 := Try.underlying30
 have HR1_0 := bA hr1_0
 have HC1_0 := bA hc1_0
 clear hr1_0 hc1_0
 have HB := bA (Below.refl w.heap.size w)
 have H : ((impact_Box.f k a0_0 a0_1 a0_2 a0_3 a0_4 a0_5 a0_6 a0_7 a1_1 a2).bind fun bt359 => (if bt359.2.2.2.2 = true then ((verdict_Speed.f k a0_0 a0_1 a0_2 a0_3 a0_4 a0_5 a0_6 a0_7 a1_2 a2).bind fun t365 => ((verdict_Place.f k a0_0 a0_1 a0_2 a0_3 a0_4 a0_5 a0_6 a0_7 l1_0 a1_1 a1_2 a1_3 a1_4 a2).bind fun t366 => (if t365 < 0 then (verdict_Of.j0 k t365 t366 true) else (verdict_Of.j0 k t365 t366 (decide (t366 < 0)))))) else (some 4))) = some r := h
 clear h
 replace H := Option.bind_eq_some_iff.mp H
 obtain ⟨⟨t359, t360, t361, t362, t363⟩, A40, H⟩ := H
 replace H : (if t363 = true then ((verdict_Speed.f k a0_0 a0_1 a0_2 a0_3 a0_4 a0_5 a0_6 a0_7 a1_2 a2).bind fun t365 => ((verdict_Place.f k a0_0 a0_1 a0_2 a0_3 a0_4 a0_5 a0_6 a0_7 l1_0 a1_1 a1_2 a1_3 a1_4 a2).bind fun t366 => (if t365 < 0 then (verdict_Of.j0 k t365 t366 true) else (verdict_Of.j0 k t365 t366 (decide (t366 < 0)))))) else (some 4)) = some r := H
 have A4 := bA A40
 clear A40
 by_cases c5 : t363 = true
 rotate_left
 ·replace c5 := Bool.eq_false_iff.mpr c5
  subst c5
  rw [if_neg bn] at H
  obtain rfl := Option.some.inj H
  go_enter Try.func16, Try.ntmps16
  go_wp2_with (first | ((with_reducible refine gate_dst (N := 3) rfl ?_); refine bE (N := 3) (cs := #[.int .i64 a0_0, .int .i64 a0_1, .int .i64 a0_2, .int .i64 a0_3, .int .i64 a0_4, .int .i64 a0_5, .int .i64 a0_6, .int .i64 a0_7]) (t := 23) ?_; intro gb357 hg w27 hbox hb; have BK357 := bA (hbox); have GW357 := bA (bZ hg); have GE357 := bA (bZ hg); replace HB := bA (bS hb); clear hb hbox hg) | ((with_reducible refine gate_dst (N := 4) rfl ?_); refine bE (N := 4) (cs := #[.slice A1_0 l1_0.length c1_0, .int .i64 a1_1, .int .i64 a1_2, .int .i64 a1_3, .int .i64 a1_4]) (t := 42) ?_; intro gb358 hg w28 hbox hb; have BK358 := bA (hbox); have GW358 := bA (bZ hg); have GE358 := bA (bZ hg); have NB357_358 := bA (bL BK357 hg); have NB358_357 := bA (bG BK357 hg); replace BK357 := bA (bB BK357 hb); replace HB := bA (bS hb); clear hb hbox hg; have hnb29 := NB357_358.out; have hnc29 := NB358_357.out; obtain ⟨hcz30_0, hcz30_1, hcz30_2, hcz30_3, hcz30_4, hcz30_5, hcz30_6, hcz30_7, hfz30_0, hfz30_1, hfz30_2, hfz30_3, hfz30_4, hfz30_5, hfz30_6, hfz30_7⟩ := bc8 BK357; obtain ⟨hcz31_0, hcz31_1, hcz31_2, hcz31_3, hcz31_4, hfz31_0, hfz31_1, hfz31_2, hfz31_3, hfz31_4⟩ := bc5 BK358) | ((first | ((with_reducible refine gate_callee (f := 7) rfl ?_); refine bC (some 16) Try.func7 #[.agg #[.int .i64 a0_0, .int .i64 a0_1, .int .i64 a0_2, .int .i64 a0_3, .int .i64 a0_4, .int .i64 a0_5, .int .i64 a0_6, .int .i64 a0_7], .int .i64 a1_1, .int .i64 a2] ?_) | go_at_call 7); (with_reducible refine (impact_Box.calls k a0_0 a0_1 a0_2 a0_3 a0_4 a0_5 a0_6 a0_7 a1_1 a2 t359 t360 t361 t362 false _ A4.out).mono ?_); rintro e w32 ⟨rfl, hb⟩; (first | refine ⟨_, rfl, ?_⟩ | skip); replace BK357 := bA (bB BK357 hb); replace BK358 := bA (bB BK358 hb); replace HB := bA (bS hb); (try clear hb)) | ((with_reducible refine gate_dst (N := 7) rfl ?_); refine bE (N := 7) (cs := #[.int .i64 0, .int .i64 0, .int .i64 0, .int .i64 0]) (t := 30) ?_; intro gb364 hg w33 hbox hb; have BK364 := bA (hbox); have GW364 := bA (bZ hg); have GE364 := bA (bZ hg); have NB357_364 := bA (bL BK357 hg); have NB364_357 := bA (bG BK357 hg); have NB358_364 := bA (bL BK358 hg); have NB364_358 := bA (bG BK358 hg); replace BK357 := bA (bB BK357 hb); replace BK358 := bA (bB BK358 hb); replace HB := bA (bS hb); clear hb hbox hg; have hnb34 := NB364_357.out; have hnc34 := NB357_364.out; have hnb35 := NB364_358.out; have hnc35 := NB358_364.out; obtain ⟨hcz36_0, hcz36_1, hcz36_2, hcz36_3, hfz36_0, hfz36_1, hfz36_2, hfz36_3⟩ := bc4 BK364))
  go_ret
  exact bF
 subst c5
 rw [if_pos rfl] at H
 replace H := Option.bind_eq_some_iff.mp H
 obtain ⟨t365, A60, H⟩ := H
 have A6 := bA A60
 clear A60
 replace H := Option.bind_eq_some_iff.mp H
 obtain ⟨t366, A70, H⟩ := H
 have A7 := bA A70
 clear A70
 have HC8 := bA H
 clear H
 go_enter Try.func16, Try.ntmps16
 try go_wp2_with (first | ((with_reducible refine gate_dst (N := 3) rfl ?_); refine bE (N := 3) (cs := #[.int .i64 a0_0, .int .i64 a0_1, .int .i64 a0_2, .int .i64 a0_3, .int .i64 a0_4, .int .i64 a0_5, .int .i64 a0_6, .int .i64 a0_7]) (t := 23) ?_; intro gb357 hg w9 hbox hb; have BK357 := bA (hbox); have GW357 := bA (bZ hg); have GE357 := bA (bZ hg); replace HB := bA (bS hb); clear hb hbox hg) | ((with_reducible refine gate_dst (N := 4) rfl ?_); refine bE (N := 4) (cs := #[.slice A1_0 l1_0.length c1_0, .int .i64 a1_1, .int .i64 a1_2, .int .i64 a1_3, .int .i64 a1_4]) (t := 42) ?_; intro gb358 hg w10 hbox hb; have BK358 := bA (hbox); have GW358 := bA (bZ hg); have GE358 := bA (bZ hg); have NB357_358 := bA (bL BK357 hg); have NB358_357 := bA (bG BK357 hg); replace BK357 := bA (bB BK357 hb); replace HB := bA (bS hb); clear hb hbox hg; have hnb11 := NB357_358.out; have hnc11 := NB358_357.out; obtain ⟨hcz12_0, hcz12_1, hcz12_2, hcz12_3, hcz12_4, hcz12_5, hcz12_6, hcz12_7, hfz12_0, hfz12_1, hfz12_2, hfz12_3, hfz12_4, hfz12_5, hfz12_6, hfz12_7⟩ := bc8 BK357; obtain ⟨hcz13_0, hcz13_1, hcz13_2, hcz13_3, hcz13_4, hfz13_0, hfz13_1, hfz13_2, hfz13_3, hfz13_4⟩ := bc5 BK358) | ((first | ((with_reducible refine gate_callee (f := 7) rfl ?_); refine bC (some 16) Try.func7 #[.agg #[.int .i64 a0_0, .int .i64 a0_1, .int .i64 a0_2, .int .i64 a0_3, .int .i64 a0_4, .int .i64 a0_5, .int .i64 a0_6, .int .i64 a0_7], .int .i64 a1_1, .int .i64 a2] ?_) | go_at_call 7); (with_reducible refine (impact_Box.calls k a0_0 a0_1 a0_2 a0_3 a0_4 a0_5 a0_6 a0_7 a1_1 a2 t359 t360 t361 t362 true _ A4.out).mono ?_); rintro e w14 ⟨rfl, hb⟩; (first | refine ⟨_, rfl, ?_⟩ | skip); replace BK357 := bA (bB BK357 hb); replace BK358 := bA (bB BK358 hb); replace HB := bA (bS hb); (try clear hb)) | ((with_reducible refine gate_dst (N := 7) rfl ?_); refine bE (N := 7) (cs := #[.int .i64 0, .int .i64 0, .int .i64 0, .int .i64 0]) (t := 30) ?_; intro gb364 hg w15 hbox hb; have BK364 := bA (hbox); have GW364 := bA (bZ hg); have GE364 := bA (bZ hg); have NB357_364 := bA (bL BK357 hg); have NB364_357 := bA (bG BK357 hg); have NB358_364 := bA (bL BK358 hg); have NB364_358 := bA (bG BK358 hg); replace BK357 := bA (bB BK357 hb); replace BK358 := bA (bB BK358 hb); replace HB := bA (bS hb); clear hb hbox hg; have hnb16 := NB364_357.out; have hnc16 := NB357_364.out; have hnb17 := NB364_358.out; have hnc17 := NB358_364.out; obtain ⟨hcz18_0, hcz18_1, hcz18_2, hcz18_3, hfz18_0, hfz18_1, hfz18_2, hfz18_3⟩ := bc4 BK364))
 have n0_ : Aside0 (((((w15.setCell ⟨gb364, 0, none⟩ (.int .i64 t359)).setCell ⟨gb364, 1, none⟩ (.int .i64 t360)).setCell ⟨gb364, 2, none⟩ (.int .i64 t361)).setCell ⟨gb364, 3, none⟩ (.int .i64 t362)).heap[gb357]? = some (.cells #[.int .i64 a0_0, .int .i64 a0_1, .int .i64 a0_2, .int .i64 a0_3, .int .i64 a0_4, .int .i64 a0_5, .int .i64 a0_6, .int .i64 a0_7] 23 (0, 0))) := ⟨by (repeat ((with_reducible repeat (first | refine blk_drewN ?_ _ | refine blk_drew ?_ | refine blk_alloc ?_ _)); refine blk_far ?_ NB357_364.out _)); (with_reducible repeat (first | refine blk_drewN ?_ _ | refine blk_drew ?_ | refine blk_alloc ?_ _)); exact BK357.out⟩
 have n1_ : Aside0 (((((w15.setCell ⟨gb364, 0, none⟩ (.int .i64 t359)).setCell ⟨gb364, 1, none⟩ (.int .i64 t360)).setCell ⟨gb364, 2, none⟩ (.int .i64 t361)).setCell ⟨gb364, 3, none⟩ (.int .i64 t362)).heap[gb358]? = some (.cells #[.slice A1_0 l1_0.length c1_0, .int .i64 a1_1, .int .i64 a1_2, .int .i64 a1_3, .int .i64 a1_4] 42 (0, 0))) := ⟨by (repeat ((with_reducible repeat (first | refine blk_drewN ?_ _ | refine blk_drew ?_ | refine blk_alloc ?_ _)); refine blk_far ?_ NB358_364.out _)); (with_reducible repeat (first | refine blk_drewN ?_ _ | refine blk_drew ?_ | refine blk_alloc ?_ _)); exact BK358.out⟩
 have n2_ : Aside0 (((((w15.setCell ⟨gb364, 0, none⟩ (.int .i64 t359)).setCell ⟨gb364, 1, none⟩ (.int .i64 t360)).setCell ⟨gb364, 2, none⟩ (.int .i64 t361)).setCell ⟨gb364, 3, none⟩ (.int .i64 t362)).heap[gb364]? = some (.cells #[.int .i64 t359, .int .i64 t360, .int .i64 t361, .int .i64 t362] 30 (0, 0))) := ⟨by (with_reducible repeat (first | refine blk_drewN ?_ _ | refine blk_drew ?_ | refine blk_alloc ?_ _)); refine blk_put (cs := #[.int .i64 t359, .int .i64 t360, .int .i64 t361, .int .i64 0]) ?_ 3 _ rfl; (with_reducible repeat (first | refine blk_drewN ?_ _ | refine blk_drew ?_ | refine blk_alloc ?_ _)); refine blk_put (cs := #[.int .i64 t359, .int .i64 t360, .int .i64 0, .int .i64 0]) ?_ 2 _ rfl; (with_reducible repeat (first | refine blk_drewN ?_ _ | refine blk_drew ?_ | refine blk_alloc ?_ _)); refine blk_put (cs := #[.int .i64 t359, .int .i64 0, .int .i64 0, .int .i64 0]) ?_ 1 _ rfl; (with_reducible repeat (first | refine blk_drewN ?_ _ | refine blk_drew ?_ | refine blk_alloc ?_ _)); refine blk_put (cs := #[.int .i64 0, .int .i64 0, .int .i64 0, .int .i64 0]) ?_ 0 _ rfl; (with_reducible repeat (first | refine blk_drewN ?_ _ | refine blk_drew ?_ | refine blk_alloc ?_ _)); exact BK364.out⟩
 have n3_ : Aside0 (Below w.heap.size w ((((w15.setCell ⟨gb364, 0, none⟩ (.int .i64 t359)).setCell ⟨gb364, 1, none⟩ (.int .i64 t360)).setCell ⟨gb364, 2, none⟩ (.int .i64 t361)).setCell ⟨gb364, 3, none⟩ (.int .i64 t362))) := ⟨bX⟩
 (try clear BK357)
 (try clear BK358)
 (try clear BK364)
 (try clear HB)
 generalize ((((w15.setCell ⟨gb364, 0, none⟩ (.int .i64 t359)).setCell ⟨gb364, 1, none⟩ (.int .i64 t360)).setCell ⟨gb364, 2, none⟩ (.int .i64 t361)).setCell ⟨gb364, 3, none⟩ (.int .i64 t362)) = w19 at n0_ n1_ n2_ n3_ ⊢
 have BK357 := n0_
 have BK358 := n1_
 have BK364 := n2_
 have HB := n3_
 clear n0_ n1_ n2_ n3_
 replace BK357 := bA (blk_drew BK357.out)
 replace BK358 := bA (blk_drew BK358.out)
 replace BK364 := bA (blk_drew BK364.out)
 replace HB := bA (below_drew1 HB.out)
 refine start_ (n := 11) (S := fun w' => w'.cell? ⟨gb357, 0, none⟩ = some (.int .i64 a0_0) ∧ w'.cell? ⟨gb357, 1, none⟩ = some (.int .i64 a0_1) ∧ w'.cell? ⟨gb357, 2, none⟩ = some (.int .i64 a0_2) ∧ w'.cell? ⟨gb357, 3, none⟩ = some (.int .i64 a0_3) ∧ w'.cell? ⟨gb357, 4, none⟩ = some (.int .i64 a0_4) ∧ w'.cell? ⟨gb357, 5, none⟩ = some (.int .i64 a0_5) ∧ w'.cell? ⟨gb357, 6, none⟩ = some (.int .i64 a0_6) ∧ w'.cell? ⟨gb357, 7, none⟩ = some (.int .i64 a0_7) ∧ w'.cell? ⟨gb358, 0, none⟩ = some (.slice A1_0 l1_0.length c1_0) ∧ w'.cell? ⟨gb358, 1, none⟩ = some (.int .i64 a1_1) ∧ w'.cell? ⟨gb358, 2, none⟩ = some (.int .i64 a1_2) ∧ w'.cell? ⟨gb358, 3, none⟩ = some (.int .i64 a1_3) ∧ w'.cell? ⟨gb358, 4, none⟩ = some (.int .i64 a1_4)) (ds := []) #[false,false,false,false,false,false,false,false,false,false,false] (by kernel_rfl) rfl rfl ⟨bq BK357 0, bq BK357 1, bq BK357 2, bq BK357 3, bq BK357 4, bq BK357 5, bq BK357 6, bq BK357 7, bq BK358 0, bq BK358 1, bq BK358 2, bq BK358 3, bq BK358 4⟩ (fun hHeld => ?_); refine with_tabW verdict_Of.tab4 verdict_Of.bits4 (fun HT_ HW_ => ?_)
 generalize w19.drew = w20 at BK357 BK358 BK364 HB hHeld ⊢
 refine bU (i := 1) (N := some 22) ?_
 refine bU (i := 3) (N := some 24) ?_
 refine bU (i := 7) (N := some 28) ?_
 refine bW (i := 0) (N := some 21) hHeld ?_
 refine bW (i := 2) (N := some 23) hHeld ?_
 refine bW (i := 5) (N := some 26) hHeld ?_
 refine bW (i := 6) (N := some 27) hHeld ?_
 refine one_ (i := 4) (N := some 25) #[true,true,true,true,true,true,true,true,false,false,false] rfl rfl (one_of HT_.out (by kernel_rfl)) (by decide) (fun K hK => ?_)
 refine goes_ Try.func29 (by kernel_rfl) rfl #[.agg #[.int .i64 a0_0, .int .i64 a0_1, .int .i64 a0_2, .int .i64 a0_3, .int .i64 a0_4, .int .i64 a0_5, .int .i64 a0_6, .int .i64 a0_7], .int .i64 a1_2, .int .i64 a2] (by rfl) rfl rfl (by (try simp only [List.map_toArray, List.map_cons, List.map_nil]); first | done | rfl | (simp only [List.length_drop, List.length_take]; rfl)) ?_
 with_reducible refine (verdict_Speed.calls k a0_0 a0_1 a0_2 a0_3 a0_4 a0_5 a0_6 a0_7 a1_2 a2 t365 _ A6.out).mono ?_
 rintro e w21 ⟨rfl, hb⟩
 refine ⟨_, rfl, ?_⟩
 replace BK357 := bA (bB BK357 hb)
 replace BK358 := bA (bB BK358 hb)
 replace BK364 := bA (bB BK364 hb)
 replace HB := bA (bS hb)
 (try clear hb)
 refine hK.out _ _ ⟨bq BK357 0, bq BK357 1, bq BK357 2, bq BK357 3, bq BK357 4, bq BK357 5, bq BK357 6, bq BK357 7, bq BK358 0, bq BK358 1, bq BK358 2, bq BK358 3, bq BK358 4⟩ (fun hHeld => ?_)
 clear hK K
 refine bI 25 ?_
 refine one_ (i := 8) (N := some 29) #[true,true,true,true,true,true,true,true,true,false,false] rfl rfl (one_of HT_.out (by kernel_rfl)) (by decide) (fun K hK => ?_)
 refine goes_ Try.func30 (by kernel_rfl) rfl #[.agg #[.int .i64 a0_0, .int .i64 a0_1, .int .i64 a0_2, .int .i64 a0_3, .int .i64 a0_4, .int .i64 a0_5, .int .i64 a0_6, .int .i64 a0_7], .agg #[.slice A1_0 l1_0.length c1_0, .int .i64 a1_1, .int .i64 a1_2, .int .i64 a1_3, .int .i64 a1_4], .int .i64 a2] (by rfl) rfl rfl (by (try simp only [List.map_toArray, List.map_cons, List.map_nil]); first | done | rfl | (simp only [List.length_drop, List.length_take]; rfl)) ?_
 with_reducible refine (verdict_Place.calls k a0_0 a0_1 a0_2 a0_3 a0_4 a0_5 a0_6 a0_7 _ _ l1_0 a1_1 a1_2 a1_3 a1_4 a2 t366 _ ?side1 ?side2 A7.out).mono ?_
 (case side1 => exact bQ HR1_0)
 (case side2 => exact HC1_0.out)
 rintro e w22 ⟨rfl, hb⟩
 refine ⟨_, rfl, ?_⟩
 replace BK357 := bA (bB BK357 hb)
 replace BK358 := bA (bB BK358 hb)
 replace BK364 := bA (bB BK364 hb)
 replace HB := bA (bS hb)
 (try clear hb)
 refine hK.out _ _ ⟨bq BK357 0, bq BK357 1, bq BK357 2, bq BK357 3, bq BK357 4, bq BK357 5, bq BK357 6, bq BK357 7, bq BK358 0, bq BK358 1, bq BK358 2, bq BK358 3, bq BK358 4⟩ (fun hHeld => ?_)
 clear hK K
 refine bI 29 ?_
 refine bU (i := 9) (N := some 9) ?_
 refine bU (i := 10) (N := some 10) ?_
 refine done_ (done_of HT_.out (by kernel_rfl)) ?_
 go_upto_region 5 with (fail)
 go_cut [30] (fun v30 wc => ∃ (kq : Nat) (x30_7 : Bool), v30 = .bool x30_7 ∧ Aside0 (verdict_Of.j0 kq t365 t366 x30_7 = some r) ∧ Aside0 (kq ≤ k) ∧ Aside0 (wc.heap[gb357]? = some (.cells #[.int .i64 a0_0, .int .i64 a0_1, .int .i64 a0_2, .int .i64 a0_3, .int .i64 a0_4, .int .i64 a0_5, .int .i64 a0_6, .int .i64 a0_7] 23 (0, 0))) ∧ Aside0 (wc.heap[gb358]? = some (.cells #[(.slice A1_0 l1_0.length c1_0), .int .i64 a1_1, .int .i64 a1_2, .int .i64 a1_3, .int .i64 a1_4] 42 (0, 0))) ∧ Aside0 (wc.heap[gb364]? = some (.cells #[.int .i64 t359, .int .i64 t360, .int .i64 t361, .int .i64 t362] 30 (0, 0))) ∧ Aside0 (Below w.heap.size w wc))
 case first =>
  have H := HC8.out
  clear HC8
  by_cases c23 : t365 < 0
  rw [if_pos c23] at H
  have c23b0 : decide (t365 < 0) = true := decide_eq_true c23
  clear c23
  (first | rw [c23b0] | (simp only [i64_w, i32_w]; rw [c23b0]) | skip)
  have H' := bA H
  clear H
  rotate_left
  rw [if_neg c23] at H
  have c23b0 : decide (t365 < 0) = false := decide_eq_false c23
  clear c23
  (first | rw [c23b0] | (simp only [i64_w, i32_w]; rw [c23b0]) | skip)
  have H' := bA H
  clear H
  rotate_left
  all_goals go_wp2
  ·go_meet
   case rel => exact ⟨_, (true), bs, H', ⟨by first | omega | exact Nat.le_refl _⟩, ⟨by (with_reducible repeat (first | refine blk_drewN ?_ _ | refine blk_drew ?_ | refine blk_alloc ?_ _)); exact BK357.out⟩, ⟨by (with_reducible repeat (first | refine blk_drewN ?_ _ | refine blk_drew ?_ | refine blk_alloc ?_ _)); exact BK358.out⟩, ⟨by (with_reducible repeat (first | refine blk_drewN ?_ _ | refine blk_drew ?_ | refine blk_alloc ?_ _)); exact BK364.out⟩, ⟨bX⟩⟩
  go_meet
  case rel => exact ⟨_, (decide (t366 < 0)), bs, H', ⟨by first | omega | exact Nat.le_refl _⟩, ⟨by (with_reducible repeat (first | refine blk_drewN ?_ _ | refine blk_drew ?_ | refine blk_alloc ?_ _)); exact BK357.out⟩, ⟨by (with_reducible repeat (first | refine blk_drewN ?_ _ | refine blk_drew ?_ | refine blk_alloc ?_ _)); exact BK358.out⟩, ⟨by (with_reducible repeat (first | refine blk_drewN ?_ _ | refine blk_drew ?_ | refine blk_alloc ?_ _)); exact BK364.out⟩, ⟨bX⟩⟩
 clear HC8
 try clear c1
 try clear c2
 try clear p2
 try clear c3
 try clear c5
 try clear c7
 try clear c11
 try clear c16
 try clear c17
 try clear c23
 try clear c23b0
 try clear hcz12_0
 try clear hcz12_1
 try clear hcz12_2
 try clear hcz12_3
 try clear hcz12_4
 try clear hcz12_5
 try clear hcz12_6
 try clear hcz12_7
 try clear hcz13_0
 try clear hcz13_1
 try clear hcz13_2
 try clear hcz13_3
 try clear hcz13_4
 try clear hcz18_0
 try clear hcz18_1
 try clear hcz18_2
 try clear hcz18_3
 try clear hfz12_0
 try clear hfz12_1
 try clear hfz12_2
 try clear hfz12_3
 try clear hfz12_4
 try clear hfz12_5
 try clear hfz12_6
 try clear hfz12_7
 try clear hfz13_0
 try clear hfz13_1
 try clear hfz13_2
 try clear hfz13_3
 try clear hfz13_4
 try clear hfz18_0
 try clear hfz18_1
 try clear hfz18_2
 try clear hfz18_3
 obtain ⟨kq, x30_7, rfl, HA, HJ7, BK357, BK358, BK364, HB⟩ := hcut
 cases kq with
 | zero => exact absurd HA.out (by simp [verdict_Of.j0])
 | succ kj7 =>
  have H := HA.out
  clear HA
  simp only [verdict_Of.j0] at H
  by_cases c24 : x30_7 = true
  subst c24
  rw [if_pos rfl] at H
  obtain rfl := Option.some.inj H
  rotate_left
  replace c24 := Bool.eq_false_iff.mpr c24
  subst c24
  rw [if_neg bn] at H
  by_cases c25 : t365 > 0
  rw [if_pos c25] at H
  have c25b0 : decide (0 < t365) = true := decide_eq_true c25
  clear c25
  by_cases c26 : t366 > 0
  rw [if_pos c26] at H
  have c26b0 : decide (0 < t366) = true := decide_eq_true c26
  clear c26
  obtain rfl := Option.some.inj H
  rotate_left
  rw [if_neg c26] at H
  have c26b0 : decide (0 < t366) = false := decide_eq_false c26
  clear c26
  obtain rfl := Option.some.inj H
  rotate_left
  rw [if_neg c25] at H
  have c25b0 : decide (0 < t365) = false := decide_eq_false c25
  clear c25
  obtain rfl := Option.some.inj H
  rotate_left
  all_goals go_wp2
  all_goals (go_ret; exact bF)
/-! ### verdict_known: function 49 -/
def verdict_known.f (a0 : Int) : Option (Int) := if a0 < 1 then (some 4) else (if a0 > 4 then (some 4) else (some a0))
set_option maxHeartbeats 8000000 in
set_option maxRecDepth 100000 in
theorem verdict_known.calls (a0 : Int) (r : Int) (w : World) (h : verdict_known.f a0 = some r) :
  Calls Try.prog 49 #[.int .i64 a0] w fun e w' => e = .returned (.int .i64 r) ∧ Drawn0 w w' := by
 have H : (if a0 < 1 then (some 4) else (if a0 > 4 then (some 4) else (some a0))) = some r := h
 clear h
 by_cases c2 : a0 < 1
 rw [if_pos c2] at H
 have c2b0 : decide (a0 < 1) = true := decide_eq_true c2
 clear c2
 obtain rfl := Option.some.inj H
 rotate_left
 rw [if_neg c2] at H
 have c2b0 : decide (a0 < 1) = false := decide_eq_false c2
 clear c2
 by_cases c3 : a0 > 4
 rw [if_pos c3] at H
 have c3b0 : decide (4 < a0) = true := decide_eq_true c3
 clear c3
 obtain rfl := Option.some.inj H
 rotate_left
 rw [if_neg c3] at H
 have c3b0 : decide (4 < a0) = false := decide_eq_false c3
 clear c3
 obtain rfl := Option.some.inj H
 rotate_left
 all_goals go_enter Try.func49, Try.ntmps49
 all_goals go_wp2
 all_goals (go_ret; exact bD)
/-! ### verdict_Join: function 31 -/
mutual
def verdict_Join.j0 : Nat → Int → Int → Bool → Option (Int)
 | 0, _, _, _ => none
 | k + 1, x0, x1, x9 => if x9 = true then (some 3) else (if x0 = 4 then (verdict_Join.j1 k x0 x1 (x1 == 4)) else (verdict_Join.j1 k x0 x1 false))
def verdict_Join.j1 : Nat → Int → Int → Bool → Option (Int)
 | 0, _, _, _ => none
 | k + 1, x0, x1, x16 => if x16 = true then (some 4) else (if x0 = 2 then (some 2) else (if x1 = 2 then (some 2) else (some 1)))
end
def verdict_Join.f (k : Nat) (a0 : Int) (a1 : Int) : Option (Int) := (verdict_known.f a0).bind fun t367 => ((verdict_known.f a1).bind fun t368 => (if t367 = 3 then (verdict_Join.j0 k t367 t368 true) else (verdict_Join.j0 k t367 t368 (t368 == 3))))
theorem verdict_Join.mono_l : ∀ k, (∀ y0 y1 y2, LeO (verdict_Join.j0 k y0 y1 y2) (verdict_Join.j0 (k + 1) y0 y1 y2)) ∧ (∀ y0 y1 y2, LeO (verdict_Join.j1 k y0 y1 y2) (verdict_Join.j1 (k + 1) y0 y1 y2))
 | 0 => ⟨fun _ _ _ r h => by simp [verdict_Join.j0] at h, fun _ _ _ r h => by simp [verdict_Join.j1] at h⟩
 | k + 1 => by
  obtain ⟨ih0, ih1⟩ := verdict_Join.mono_l k
  refine ⟨?_, ?_⟩
  ·intro y0 y1 y2
   unfold verdict_Join.j0
   exact bMo
  ·intro y0 y1 y2
   unfold verdict_Join.j1
   exact bMo
theorem verdict_Join.mono : ∀ a0 a1 k, LeO (verdict_Join.f k a0 a1) (verdict_Join.f (k + 1) a0 a1) := by
 intro a0 a1 k
 obtain ⟨ih0, ih1⟩ := verdict_Join.mono_l k
 unfold verdict_Join.f
 exact bMo
set_option maxHeartbeats 8000000 in
set_option maxRecDepth 100000 in
theorem verdict_Join.calls (k : Nat) (a0 : Int) (a1 : Int) (r : Int) (w : World) (h : verdict_Join.f k a0 a1 = some r) :
  Calls Try.prog 31 #[.int .i64 a0, .int .i64 a1] w fun e w' => e = .returned (.int .i64 r) ∧ Drawn0 w w' := by
 have H : ((verdict_known.f a0).bind fun t367 => ((verdict_known.f a1).bind fun t368 => (if t367 = 3 then (verdict_Join.j0 k t367 t368 true) else (verdict_Join.j0 k t367 t368 (t368 == 3))))) = some r := h
 clear h
 replace H := Option.bind_eq_some_iff.mp H
 obtain ⟨t367, A30, H⟩ := H
 have A3 := bA A30
 clear A30
 replace H := Option.bind_eq_some_iff.mp H
 obtain ⟨t368, A40, H⟩ := H
 have A4 := bA A40
 clear A40
 have HC5 := bA H
 clear H
 go_enter Try.func31, Try.ntmps31
 go_upto_region 2 with (first | ((first | ((with_reducible refine gate_callee (f := 49) rfl ?_); refine bC (some 6) Try.func49 #[.int .i64 a0] ?_) | go_at_call 49); (with_reducible refine (verdict_known.calls a0 t367 _ A3.out).mono ?_); rintro e w' ⟨rfl, ⟨nd, rfl⟩⟩; (first | refine ⟨_, rfl, ?_⟩ | skip)) | ((first | ((with_reducible refine gate_callee (f := 49) rfl ?_); refine bC (some 8) Try.func49 #[.int .i64 a1] ?_) | go_at_call 49); (with_reducible refine (verdict_known.calls a1 t368 _ A4.out).mono ?_); rintro e w' ⟨rfl, ⟨nd, rfl⟩⟩; (first | refine ⟨_, rfl, ?_⟩ | skip)))
 (try simp only [Act.put, List.setIfInBounds_toArray, List.set_cons_zero, List.set_cons_succ])
 go_cut [9] (fun v9 wc => ∃ (kq : Nat) (x9_4 : Bool), v9 = .bool x9_4 ∧ Aside0 (verdict_Join.j0 kq t367 t368 x9_4 = some r) ∧ Aside0 (kq ≤ k) ∧ Drawn0 w wc)
 case first =>
  have H := HC5.out
  clear HC5
  by_cases c6 : t367 = 3
  rw [if_pos c6] at H
  have c6b0 : (t367 == 3) = true := beq_iff_eq.mpr c6
  have c6b1 : (t367 != 3) = false := bne_eq_false_iff_eq.mpr c6
  clear c6
  (first | rw [c6b0] | (simp only [i64_w, i32_w]; rw [c6b0]) | skip)
  have H' := bA H
  clear H
  rotate_left
  rw [if_neg c6] at H
  have c6b0 : (t367 == 3) = false := beq_eq_false_iff_ne.mpr c6
  have c6b1 : (t367 != 3) = true := bne_iff_ne.mpr c6
  (first | rw [c6b0] | (simp only [i64_w, i32_w]; rw [c6b0]) | skip)
  have H' := bA H
  clear H
  rotate_left
  all_goals go_wp2
  ·go_meet
   case rel => exact ⟨_, (true), bs, H', ⟨by first | omega | exact Nat.le_refl _⟩, by repeat (first | exact Drawn0.refl _ | apply Drawn0.step)⟩
  go_meet
  case rel => exact ⟨_, ((t368 == 3)), bs, H', ⟨by first | omega | exact Nat.le_refl _⟩, by repeat (first | exact Drawn0.refl _ | apply Drawn0.step)⟩
 clear HC5
 try clear p2
 try clear c3
 try clear c4
 try clear c6
 try clear c6b0
 try clear c6b1
 obtain ⟨kq, x9_4, rfl, HA, HJ4, ⟨mc4, rfl⟩⟩ := hcut
 cases kq with
 | zero => exact absurd HA.out (by simp [verdict_Join.j0])
 | succ kj4 =>
  have H := HA.out
  clear HA
  simp only [verdict_Join.j0] at H
  by_cases c7 : x9_4 = true
  ·subst c7
   rw [if_pos rfl] at H
   obtain rfl := Option.some.inj H
   go_wp2
   go_ret
   exact bD
  replace c7 := Bool.eq_false_iff.mpr c7
  subst c7
  rw [if_neg bn] at H
  have HC8 := bA H
  clear H
  go_upto_region 4 with (fail)
  go_cut [16] (fun v16 wc => ∃ (kq : Nat) (x16_7 : Bool), v16 = .bool x16_7 ∧ Aside0 (verdict_Join.j1 kq t367 t368 x16_7 = some r) ∧ Aside0 (kq ≤ kj4) ∧ Drawn0 w wc)
  case first =>
   have H := HC8.out
   clear HC8
   by_cases c9 : t367 = 4
   rw [if_pos c9] at H
   have c9b0 : (t367 == 4) = true := beq_iff_eq.mpr c9
   have c9b1 : (t367 != 4) = false := bne_eq_false_iff_eq.mpr c9
   clear c9
   (first | rw [c9b0] | (simp only [i64_w, i32_w]; rw [c9b0]) | skip)
   have H' := bA H
   clear H
   rotate_left
   rw [if_neg c9] at H
   have c9b0 : (t367 == 4) = false := beq_eq_false_iff_ne.mpr c9
   have c9b1 : (t367 != 4) = true := bne_iff_ne.mpr c9
   (first | rw [c9b0] | (simp only [i64_w, i32_w]; rw [c9b0]) | skip)
   have H' := bA H
   clear H
   rotate_left
   all_goals go_wp2
   ·go_meet
    case rel => exact ⟨_, ((t368 == 4)), bs, H', ⟨by have := HJ4.out; first | omega | exact Nat.le_refl _⟩, by repeat (first | exact Drawn0.refl _ | apply Drawn0.step)⟩
   go_meet
   case rel => exact ⟨_, (false), bs, H', ⟨by have := HJ4.out; first | omega | exact Nat.le_refl _⟩, by repeat (first | exact Drawn0.refl _ | apply Drawn0.step)⟩
  clear HC8
  try clear p2
  try clear c3
  try clear c4
  try clear c6
  try clear c6b0
  try clear c6b1
  try clear c7
  try clear c9
  try clear c9b0
  try clear c9b1
  try clear p2
  obtain ⟨kq, x16_7, rfl, HA, HJ7, ⟨mc7, rfl⟩⟩ := hcut
  cases kq with
  | zero => exact absurd HA.out (by simp [verdict_Join.j1])
  | succ kj7 =>
   have H := HA.out
   clear HA
   simp only [verdict_Join.j1] at H
   by_cases c10 : x16_7 = true
   subst c10
   rw [if_pos rfl] at H
   obtain rfl := Option.some.inj H
   rotate_left
   replace c10 := Bool.eq_false_iff.mpr c10
   subst c10
   rw [if_neg bn] at H
   by_cases c11 : t367 = 2
   rw [if_pos c11] at H
   have c11b0 : (t367 == 2) = true := beq_iff_eq.mpr c11
   have c11b1 : (t367 != 2) = false := bne_eq_false_iff_eq.mpr c11
   clear c11
   obtain rfl := Option.some.inj H
   rotate_left
   rw [if_neg c11] at H
   have c11b0 : (t367 == 2) = false := beq_eq_false_iff_ne.mpr c11
   have c11b1 : (t367 != 2) = true := bne_iff_ne.mpr c11
   by_cases c12 : t368 = 2
   rw [if_pos c12] at H
   have c12b0 : (t368 == 2) = true := beq_iff_eq.mpr c12
   have c12b1 : (t368 != 2) = false := bne_eq_false_iff_eq.mpr c12
   clear c12
   obtain rfl := Option.some.inj H
   rotate_left
   rw [if_neg c12] at H
   have c12b0 : (t368 == 2) = false := beq_eq_false_iff_ne.mpr c12
   have c12b1 : (t368 != 2) = true := bne_iff_ne.mpr c12
   obtain rfl := Option.some.inj H
   rotate_left
   all_goals go_wp2
   all_goals (go_ret; exact bD)
/-! ### verdict_Sure: function 32 -/
def verdict_Sure.f (a0 : Int) : Option (Bool) := if a0 = 1 then (some true) else (some (a0 == 3))
set_option maxHeartbeats 8000000 in
set_option maxRecDepth 100000 in
theorem verdict_Sure.calls (a0 : Int) (r : Bool) (w : World) (h : verdict_Sure.f a0 = some r) :
  Calls Try.prog 32 #[.int .i64 a0] w fun e w' => e = .returned (.bool r) ∧ Drawn0 w w' := by
 have H : (if a0 = 1 then (some true) else (some (a0 == 3))) = some r := h
 clear h
 by_cases c2 : a0 = 1
 rw [if_pos c2] at H
 have c2b0 : (a0 == 1) = true := beq_iff_eq.mpr c2
 have c2b1 : (a0 != 1) = false := bne_eq_false_iff_eq.mpr c2
 clear c2
 obtain rfl := Option.some.inj H
 rotate_left
 rw [if_neg c2] at H
 have c2b0 : (a0 == 1) = false := beq_eq_false_iff_ne.mpr c2
 have c2b1 : (a0 != 1) = true := bne_iff_ne.mpr c2
 obtain rfl := Option.some.inj H
 rotate_left
 all_goals go_enter Try.func32, Try.ntmps32
 all_goals go_wp2
 all_goals (go_ret; exact bD)
/-! ### apogeelaw19_awake: function 14 -/
def apogeelaw19_awake.f (k : Nat)  : Option (Bool) := (apogeelaw19_phase.f k).bind fun bt369 => ((verdict_Of.f k 0 0 0 0 100 3 0 0 bt369.1 bt369.2.1 bt369.2.2.1 bt369.2.2.2.1 bt369.2.2.2.2 2).bind fun t377 => (if t377 = 1 then ((verdict_Of.f k 0 0 0 0 100 250 0 0 bt369.1 bt369.2.1 bt369.2.2.1 bt369.2.2.2.1 bt369.2.2.2.2 2).bind fun t378 => (if t378 = 3 then ((verdict_Of.f k 0 0 5000 0 0 0 0 0 bt369.1 bt369.2.1 bt369.2.2.1 bt369.2.2.2.1 bt369.2.2.2.2 2).bind fun t379 => (if t379 = 3 then ((verdict_Of.f k 0 0 1000 0 0 0 0 0 bt369.1 bt369.2.1 bt369.2.2.1 bt369.2.2.2.1 bt369.2.2.2.2 2).bind fun t380 => (if t380 = 2 then ((verdict_Of.f k 0 0 0 0 0 200 0 0 bt369.1 bt369.2.1 bt369.2.2.1 bt369.2.2.2.1 bt369.2.2.2.2 2).bind fun t381 => (if t381 = 2 then ((verdict_Of.f k 0 0 1099511627776 0 0 0 0 0 bt369.1 bt369.2.1 bt369.2.2.1 bt369.2.2.2.1 bt369.2.2.2.2 2).bind fun t382 => (if t382 = 4 then ((verdict_Speed.f k 0 0 0 0 0 0 0 (-203) 200 2).bind fun t383 => (if t383 = (-1) then ((verdict_Place.f k 0 0 0 0 0 0 0 0 bt369.1 bt369.2.1 bt369.2.2.1 bt369.2.2.2.1 bt369.2.2.2.2 0).bind fun t384 => (if t384 = 1 then ((verdict_Join.f k 1 4).bind fun t385 => (if t385 = 1 then ((verdict_Join.f k 2 3).bind fun t386 => (if t386 = 3 then ((verdict_Sure.f 1).bind fun t387 => (if t387 = true then ((verdict_Sure.f 2).bind fun t388 => (some (!t388))) else (none))) else (none))) else (none))) else (none))) else (none))) else (none))) else (none))) else (none))) else (none))) else (none))) else (none)))
theorem apogeelaw19_awake.mono : ∀ k, LeO (apogeelaw19_awake.f k ) (apogeelaw19_awake.f (k + 1) ) := by
 intro  k
 unfold apogeelaw19_awake.f
 have m0_ := @apogeelaw19_phase.mono
 have m1_ := @verdict_Join.mono
 have m2_ := @verdict_Of.mono
 have m3_ := @verdict_Place.mono
 have m4_ := @verdict_Speed.mono
 exact bMo
set_option maxHeartbeats 8000000 in
set_option maxRecDepth 100000 in
theorem apogeelaw19_awake.calls (k : Nat)  (r : Bool) (w : World) (h : apogeelaw19_awake.f k  = some r) :
  Calls Try.prog 14 #[] w fun e w' => e = .returned (.bool r) ∧ Below w.heap.size w w' := by
 have hu42 := Try.underlying42
 have hu23 := Try.underlying23
 have HB := bA (Below.refl w.heap.size w)
 have H : ((apogeelaw19_phase.f k).bind fun bt369 => ((verdict_Of.f k 0 0 0 0 100 3 0 0 bt369.1 bt369.2.1 bt369.2.2.1 bt369.2.2.2.1 bt369.2.2.2.2 2).bind fun t377 => (if t377 = 1 then ((verdict_Of.f k 0 0 0 0 100 250 0 0 bt369.1 bt369.2.1 bt369.2.2.1 bt369.2.2.2.1 bt369.2.2.2.2 2).bind fun t378 => (if t378 = 3 then ((verdict_Of.f k 0 0 5000 0 0 0 0 0 bt369.1 bt369.2.1 bt369.2.2.1 bt369.2.2.2.1 bt369.2.2.2.2 2).bind fun t379 => (if t379 = 3 then ((verdict_Of.f k 0 0 1000 0 0 0 0 0 bt369.1 bt369.2.1 bt369.2.2.1 bt369.2.2.2.1 bt369.2.2.2.2 2).bind fun t380 => (if t380 = 2 then ((verdict_Of.f k 0 0 0 0 0 200 0 0 bt369.1 bt369.2.1 bt369.2.2.1 bt369.2.2.2.1 bt369.2.2.2.2 2).bind fun t381 => (if t381 = 2 then ((verdict_Of.f k 0 0 1099511627776 0 0 0 0 0 bt369.1 bt369.2.1 bt369.2.2.1 bt369.2.2.2.1 bt369.2.2.2.2 2).bind fun t382 => (if t382 = 4 then ((verdict_Speed.f k 0 0 0 0 0 0 0 (-203) 200 2).bind fun t383 => (if t383 = (-1) then ((verdict_Place.f k 0 0 0 0 0 0 0 0 bt369.1 bt369.2.1 bt369.2.2.1 bt369.2.2.2.1 bt369.2.2.2.2 0).bind fun t384 => (if t384 = 1 then ((verdict_Join.f k 1 4).bind fun t385 => (if t385 = 1 then ((verdict_Join.f k 2 3).bind fun t386 => (if t386 = 3 then ((verdict_Sure.f 1).bind fun t387 => (if t387 = true then ((verdict_Sure.f 2).bind fun t388 => (some (!t388))) else (none))) else (none))) else (none))) else (none))) else (none))) else (none))) else (none))) else (none))) else (none))) else (none))) else (none)))) = some r := h
 clear h
 replace H := Option.bind_eq_some_iff.mp H
 obtain ⟨⟨t369, t372, t373, t374, t375⟩, A10, H⟩ := H
 replace H : ((verdict_Of.f k 0 0 0 0 100 3 0 0 t369 t372 t373 t374 t375 2).bind fun t377 => (if t377 = 1 then ((verdict_Of.f k 0 0 0 0 100 250 0 0 t369 t372 t373 t374 t375 2).bind fun t378 => (if t378 = 3 then ((verdict_Of.f k 0 0 5000 0 0 0 0 0 t369 t372 t373 t374 t375 2).bind fun t379 => (if t379 = 3 then ((verdict_Of.f k 0 0 1000 0 0 0 0 0 t369 t372 t373 t374 t375 2).bind fun t380 => (if t380 = 2 then ((verdict_Of.f k 0 0 0 0 0 200 0 0 t369 t372 t373 t374 t375 2).bind fun t381 => (if t381 = 2 then ((verdict_Of.f k 0 0 1099511627776 0 0 0 0 0 t369 t372 t373 t374 t375 2).bind fun t382 => (if t382 = 4 then ((verdict_Speed.f k 0 0 0 0 0 0 0 (-203) 200 2).bind fun t383 => (if t383 = (-1) then ((verdict_Place.f k 0 0 0 0 0 0 0 0 t369 t372 t373 t374 t375 0).bind fun t384 => (if t384 = 1 then ((verdict_Join.f k 1 4).bind fun t385 => (if t385 = 1 then ((verdict_Join.f k 2 3).bind fun t386 => (if t386 = 3 then ((verdict_Sure.f 1).bind fun t387 => (if t387 = true then ((verdict_Sure.f 2).bind fun t388 => (some (!t388))) else (none))) else (none))) else (none))) else (none))) else (none))) else (none))) else (none))) else (none))) else (none))) else (none))) else (none))) = some r := H
 have A1 := bA A10
 clear A10
 replace H := Option.bind_eq_some_iff.mp H
 obtain ⟨t377, A20, H⟩ := H
 have A2 := bA A20
 clear A20
 by_cases c3 : t377 = 1
 rotate_left
 ·rw [if_neg c3] at H
  exact absurd H (by simp)
 rw [if_pos c3] at H
 have c3b0 : (t377 == 1) = true := beq_iff_eq.mpr c3
 have c3b1 : (t377 != 1) = false := bne_eq_false_iff_eq.mpr c3
 clear c3
 replace H := Option.bind_eq_some_iff.mp H
 obtain ⟨t378, A40, H⟩ := H
 have A4 := bA A40
 clear A40
 by_cases c5 : t378 = 3
 rotate_left
 ·rw [if_neg c5] at H
  exact absurd H (by simp)
 rw [if_pos c5] at H
 have c5b0 : (t378 == 3) = true := beq_iff_eq.mpr c5
 have c5b1 : (t378 != 3) = false := bne_eq_false_iff_eq.mpr c5
 clear c5
 replace H := Option.bind_eq_some_iff.mp H
 obtain ⟨t379, A60, H⟩ := H
 have A6 := bA A60
 clear A60
 by_cases c7 : t379 = 3
 rotate_left
 ·rw [if_neg c7] at H
  exact absurd H (by simp)
 rw [if_pos c7] at H
 have c7b0 : (t379 == 3) = true := beq_iff_eq.mpr c7
 have c7b1 : (t379 != 3) = false := bne_eq_false_iff_eq.mpr c7
 clear c7
 replace H := Option.bind_eq_some_iff.mp H
 obtain ⟨t380, A80, H⟩ := H
 have A8 := bA A80
 clear A80
 by_cases c9 : t380 = 2
 rotate_left
 ·rw [if_neg c9] at H
  exact absurd H (by simp)
 rw [if_pos c9] at H
 have c9b0 : (t380 == 2) = true := beq_iff_eq.mpr c9
 have c9b1 : (t380 != 2) = false := bne_eq_false_iff_eq.mpr c9
 clear c9
 replace H := Option.bind_eq_some_iff.mp H
 obtain ⟨t381, A100, H⟩ := H
 have A10 := bA A100
 clear A100
 by_cases c11 : t381 = 2
 rotate_left
 ·rw [if_neg c11] at H
  exact absurd H (by simp)
 rw [if_pos c11] at H
 have c11b0 : (t381 == 2) = true := beq_iff_eq.mpr c11
 have c11b1 : (t381 != 2) = false := bne_eq_false_iff_eq.mpr c11
 clear c11
 replace H := Option.bind_eq_some_iff.mp H
 obtain ⟨t382, A120, H⟩ := H
 have A12 := bA A120
 clear A120
 by_cases c13 : t382 = 4
 rotate_left
 ·rw [if_neg c13] at H
  exact absurd H (by simp)
 rw [if_pos c13] at H
 have c13b0 : (t382 == 4) = true := beq_iff_eq.mpr c13
 have c13b1 : (t382 != 4) = false := bne_eq_false_iff_eq.mpr c13
 clear c13
 replace H := Option.bind_eq_some_iff.mp H
 obtain ⟨t383, A140, H⟩ := H
 have A14 := bA A140
 clear A140
 by_cases c15 : t383 = (-1)
 rotate_left
 ·rw [if_neg c15] at H
  exact absurd H (by simp)
 rw [if_pos c15] at H
 have c15b0 : (t383 == (-1)) = true := beq_iff_eq.mpr c15
 have c15b1 : (t383 != (-1)) = false := bne_eq_false_iff_eq.mpr c15
 clear c15
 replace H := Option.bind_eq_some_iff.mp H
 obtain ⟨t384, A160, H⟩ := H
 have A16 := bA A160
 clear A160
 by_cases c17 : t384 = 1
 rotate_left
 ·rw [if_neg c17] at H
  exact absurd H (by simp)
 rw [if_pos c17] at H
 have c17b0 : (t384 == 1) = true := beq_iff_eq.mpr c17
 have c17b1 : (t384 != 1) = false := bne_eq_false_iff_eq.mpr c17
 clear c17
 replace H := Option.bind_eq_some_iff.mp H
 obtain ⟨t385, A180, H⟩ := H
 have A18 := bA A180
 clear A180
 by_cases c19 : t385 = 1
 rotate_left
 ·rw [if_neg c19] at H
  exact absurd H (by simp)
 rw [if_pos c19] at H
 have c19b0 : (t385 == 1) = true := beq_iff_eq.mpr c19
 have c19b1 : (t385 != 1) = false := bne_eq_false_iff_eq.mpr c19
 clear c19
 replace H := Option.bind_eq_some_iff.mp H
 obtain ⟨t386, A200, H⟩ := H
 have A20 := bA A200
 clear A200
 by_cases c21 : t386 = 3
 rotate_left
 ·rw [if_neg c21] at H
  exact absurd H (by simp)
 rw [if_pos c21] at H
 have c21b0 : (t386 == 3) = true := beq_iff_eq.mpr c21
 have c21b1 : (t386 != 3) = false := bne_eq_false_iff_eq.mpr c21
 clear c21
 replace H := Option.bind_eq_some_iff.mp H
 obtain ⟨t387, A220, H⟩ := H
 have A22 := bA A220
 clear A220
 by_cases c23 : t387 = true
 rotate_left
 ·replace c23 := Bool.eq_false_iff.mpr c23
  subst c23
  rw [if_neg bn] at H
  exact absurd H (by simp)
 subst c23
 rw [if_pos rfl] at H
 replace H := Option.bind_eq_some_iff.mp H
 obtain ⟨t388, A240, H⟩ := H
 have A24 := bA A240
 clear A240
 obtain rfl := Option.some.inj H
 go_enter Try.func14, Try.ntmps14
 go_wp2_with (first | ((first | ((with_reducible refine gate_callee (f := 28) rfl ?_); refine bC (some 2) Try.func28 #[] ?_) | ((fail_if_success (have h_ := HO371)); go_at_call 28)); (with_reducible refine (apogeelaw19_phase.calls k  t369 t372 t373 t374 t375 _ A1.out).mono ?_); rintro e w25 ⟨v370, rfl, ho0, hb⟩; (first | refine ⟨_, rfl, ?_⟩ | skip); have HO371 := bA (Kd.R_lower ho0 bY); replace HB := bA (bS hb); (try clear hb); (try clear ho0)) | ((with_reducible refine gate_dst (N := 1) rfl ?_); refine bE (N := 1) (cs := #[.slice none 0 0, .int .i64 0, .int .i64 0, .int .i64 0, .int .i64 0]) (t := 42) ?_; intro gb376 hg w26 hbox hb; have BK376 := bA (hbox); have GW376 := bA (bZ hg); have GE376 := bA (bZ hg); replace HO371 := bA (Kd.R_below (bRr HO371) hb); replace HB := bA (bS hb); clear hb hbox hg; obtain ⟨Ao27, co27, eo27⟩ := Kd.R_slice HO371.out; subst eo27; obtain ⟨hcz28_0, hcz28_1, hcz28_2, hcz28_3, hcz28_4, hfz28_0, hfz28_1, hfz28_2, hfz28_3, hfz28_4⟩ := bc5 BK376) | ((first | ((with_reducible refine gate_callee (f := 16) rfl ?_); refine bC (some 5) Try.func16 #[.agg #[.int .i64 0, .int .i64 0, .int .i64 0, .int .i64 0, .int .i64 100, .int .i64 3, .int .i64 0, .int .i64 0], .agg #[.slice Ao27 t369.length co27, .int .i64 t372, .int .i64 t373, .int .i64 t374, .int .i64 t375], .int .i64 2] ?_) | go_at_call 16); (with_reducible refine (verdict_Of.calls k 0 0 0 0 100 3 0 0 _ _ t369 t372 t373 t374 t375 2 t377 _ ?side1 ?side2 A2.out).mono ?_); (case side1 => refine (Kd.R_reads' (e := 28) (base := w.heap.size) (ok := fun k_ => True) (n := t369.length) (c := co27) ?_).2.2; exact (by (with_reducible repeat (first | apply Kd.R_alloc | apply Kd.R_drewN | apply Kd.R_drew)); exact (Kd.R_mono (Kd.R_far (p := ⟨gb376, 4, none⟩) (Kd.R_far (p := ⟨gb376, 3, none⟩) (Kd.R_far (p := ⟨gb376, 2, none⟩) (Kd.R_far (p := ⟨gb376, 1, none⟩) (Kd.R_far (p := ⟨gb376, 0, none⟩) (Kd.R_types HO371.out BK376.out (by decide)) (fun _ hk => hk.2) (.slice Ao27 t369.length co27)) (fun _ hk => hk.2) (.int .i64 t372)) (fun _ hk => hk.2) (.int .i64 t373)) (fun _ hk => hk.2) (.int .i64 t374)) (fun _ hk => hk.2) (.int .i64 t375)) (fun _ h_ => h_.1)))); (case side2 => exact (Kd.R_reads' HO371.out).2.1); rintro e w29 ⟨rfl, hb⟩; (first | refine ⟨_, rfl, ?_⟩ | skip); replace HO371 := bA (Kd.R_below (by (with_reducible repeat (first | apply Kd.R_alloc | apply Kd.R_drewN | apply Kd.R_drew)); exact (Kd.R_mono (Kd.R_far (p := ⟨gb376, 4, none⟩) (Kd.R_far (p := ⟨gb376, 3, none⟩) (Kd.R_far (p := ⟨gb376, 2, none⟩) (Kd.R_far (p := ⟨gb376, 1, none⟩) (Kd.R_far (p := ⟨gb376, 0, none⟩) (Kd.R_types HO371.out BK376.out (by decide)) (fun _ hk => hk.2) (.slice Ao27 t369.length co27)) (fun _ hk => hk.2) (.int .i64 t372)) (fun _ hk => hk.2) (.int .i64 t373)) (fun _ hk => hk.2) (.int .i64 t374)) (fun _ hk => hk.2) (.int .i64 t375)) (fun _ h_ => h_.1))) hb); replace BK376 := bA (blk_below (g := gb376) (o := .cells #[.slice Ao27 t369.length co27, .int .i64 t372, .int .i64 t373, .int .i64 t374, .int .i64 t375] 42 (0, 0)) (by (with_reducible repeat (first | refine blk_drewN ?_ _ | refine blk_drew ?_ | refine blk_alloc ?_ _)); refine blk_put (cs := #[.slice Ao27 t369.length co27, .int .i64 t372, .int .i64 t373, .int .i64 t374, .int .i64 0]) ?_ 4 _ rfl; (with_reducible repeat (first | refine blk_drewN ?_ _ | refine blk_drew ?_ | refine blk_alloc ?_ _)); refine blk_put (cs := #[.slice Ao27 t369.length co27, .int .i64 t372, .int .i64 t373, .int .i64 0, .int .i64 0]) ?_ 3 _ rfl; (with_reducible repeat (first | refine blk_drewN ?_ _ | refine blk_drew ?_ | refine blk_alloc ?_ _)); refine blk_put (cs := #[.slice Ao27 t369.length co27, .int .i64 t372, .int .i64 0, .int .i64 0, .int .i64 0]) ?_ 2 _ rfl; (with_reducible repeat (first | refine blk_drewN ?_ _ | refine blk_drew ?_ | refine blk_alloc ?_ _)); refine blk_put (cs := #[.slice Ao27 t369.length co27, .int .i64 0, .int .i64 0, .int .i64 0, .int .i64 0]) ?_ 1 _ rfl; (with_reducible repeat (first | refine blk_drewN ?_ _ | refine blk_drew ?_ | refine blk_alloc ?_ _)); refine blk_put (cs := #[.slice none 0 0, .int .i64 0, .int .i64 0, .int .i64 0, .int .i64 0]) ?_ 0 _ rfl; (with_reducible repeat (first | refine blk_drewN ?_ _ | refine blk_drew ?_ | refine blk_alloc ?_ _)); exact BK376.out) hb); replace HB := bA (bS hb); (try clear hb); obtain ⟨hcz30_0, hcz30_1, hcz30_2, hcz30_3, hcz30_4, hfz30_0, hfz30_1, hfz30_2, hfz30_3, hfz30_4⟩ := bc5 BK376) | (go_at_call 16; (with_reducible refine (verdict_Of.calls k 0 0 0 0 100 250 0 0 _ _ t369 t372 t373 t374 t375 2 t378 _ ?side1 ?side2 A4.out).mono ?_); (case side1 => repeat (first | exact (Kd.R_reads' HO371.out).2.2 | (with_reducible refine Kd.C_alloc ?_ _) | (with_reducible refine Kd.C_drewN ?_ _) | (with_reducible refine Kd.C_drew ?_))); (case side2 => exact (Kd.R_reads' HO371.out).2.1); rintro e w31 ⟨rfl, hb⟩; replace HO371 := bA (Kd.R_below (bRr HO371) hb); replace BK376 := bA (bB BK376 hb); replace HB := bA (bS hb); (try clear hb); obtain ⟨hcz32_0, hcz32_1, hcz32_2, hcz32_3, hcz32_4, hfz32_0, hfz32_1, hfz32_2, hfz32_3, hfz32_4⟩ := bc5 BK376) | (go_at_call 16; (with_reducible refine (verdict_Of.calls k 0 0 5000 0 0 0 0 0 _ _ t369 t372 t373 t374 t375 2 t379 _ ?side1 ?side2 A6.out).mono ?_); (case side1 => repeat (first | exact (Kd.R_reads' HO371.out).2.2 | (with_reducible refine Kd.C_alloc ?_ _) | (with_reducible refine Kd.C_drewN ?_ _) | (with_reducible refine Kd.C_drew ?_))); (case side2 => exact (Kd.R_reads' HO371.out).2.1); rintro e w33 ⟨rfl, hb⟩; replace HO371 := bA (Kd.R_below (bRr HO371) hb); replace BK376 := bA (bB BK376 hb); replace HB := bA (bS hb); (try clear hb); obtain ⟨hcz34_0, hcz34_1, hcz34_2, hcz34_3, hcz34_4, hfz34_0, hfz34_1, hfz34_2, hfz34_3, hfz34_4⟩ := bc5 BK376) | (go_at_call 16; (with_reducible refine (verdict_Of.calls k 0 0 1000 0 0 0 0 0 _ _ t369 t372 t373 t374 t375 2 t380 _ ?side1 ?side2 A8.out).mono ?_); (case side1 => repeat (first | exact (Kd.R_reads' HO371.out).2.2 | (with_reducible refine Kd.C_alloc ?_ _) | (with_reducible refine Kd.C_drewN ?_ _) | (with_reducible refine Kd.C_drew ?_))); (case side2 => exact (Kd.R_reads' HO371.out).2.1); rintro e w35 ⟨rfl, hb⟩; replace HO371 := bA (Kd.R_below (bRr HO371) hb); replace BK376 := bA (bB BK376 hb); replace HB := bA (bS hb); (try clear hb); obtain ⟨hcz36_0, hcz36_1, hcz36_2, hcz36_3, hcz36_4, hfz36_0, hfz36_1, hfz36_2, hfz36_3, hfz36_4⟩ := bc5 BK376) | (go_at_call 16; (with_reducible refine (verdict_Of.calls k 0 0 0 0 0 200 0 0 _ _ t369 t372 t373 t374 t375 2 t381 _ ?side1 ?side2 A10.out).mono ?_); (case side1 => repeat (first | exact (Kd.R_reads' HO371.out).2.2 | (with_reducible refine Kd.C_alloc ?_ _) | (with_reducible refine Kd.C_drewN ?_ _) | (with_reducible refine Kd.C_drew ?_))); (case side2 => exact (Kd.R_reads' HO371.out).2.1); rintro e w37 ⟨rfl, hb⟩; replace HO371 := bA (Kd.R_below (bRr HO371) hb); replace BK376 := bA (bB BK376 hb); replace HB := bA (bS hb); (try clear hb); obtain ⟨hcz38_0, hcz38_1, hcz38_2, hcz38_3, hcz38_4, hfz38_0, hfz38_1, hfz38_2, hfz38_3, hfz38_4⟩ := bc5 BK376) | (go_at_call 16; (with_reducible refine (verdict_Of.calls k 0 0 1099511627776 0 0 0 0 0 _ _ t369 t372 t373 t374 t375 2 t382 _ ?side1 ?side2 A12.out).mono ?_); (case side1 => repeat (first | exact (Kd.R_reads' HO371.out).2.2 | (with_reducible refine Kd.C_alloc ?_ _) | (with_reducible refine Kd.C_drewN ?_ _) | (with_reducible refine Kd.C_drew ?_))); (case side2 => exact (Kd.R_reads' HO371.out).2.1); rintro e w39 ⟨rfl, hb⟩; replace HO371 := bA (Kd.R_below (bRr HO371) hb); replace BK376 := bA (bB BK376 hb); replace HB := bA (bS hb); (try clear hb)) | (go_at_call 29; (with_reducible refine (verdict_Speed.calls k 0 0 0 0 0 0 0 (-203) 200 2 t383 _ A14.out).mono ?_); rintro e w40 ⟨rfl, hb⟩; replace HO371 := bA (Kd.R_below (bRr HO371) hb); replace BK376 := bA (bB BK376 hb); replace HB := bA (bS hb); (try clear hb); obtain ⟨hcz41_0, hcz41_1, hcz41_2, hcz41_3, hcz41_4, hfz41_0, hfz41_1, hfz41_2, hfz41_3, hfz41_4⟩ := bc5 BK376) | (go_at_call 30; (with_reducible refine (verdict_Place.calls k 0 0 0 0 0 0 0 0 _ _ t369 t372 t373 t374 t375 0 t384 _ ?side1 ?side2 A16.out).mono ?_); (case side1 => repeat (first | exact (Kd.R_reads' HO371.out).2.2 | (with_reducible refine Kd.C_alloc ?_ _) | (with_reducible refine Kd.C_drewN ?_ _) | (with_reducible refine Kd.C_drew ?_))); (case side2 => exact (Kd.R_reads' HO371.out).2.1); rintro e w42 ⟨rfl, hb⟩; replace HO371 := bA (Kd.R_below (bRr HO371) hb); replace BK376 := bA (bB BK376 hb); replace HB := bA (bS hb); (try clear hb)) | (go_at_call 31; (with_reducible refine (verdict_Join.calls k 1 4 t385 _ A18.out).mono ?_); rintro e w' ⟨rfl, ⟨nd, rfl⟩⟩) | (go_at_call 31; (with_reducible refine (verdict_Join.calls k 2 3 t386 _ A20.out).mono ?_); rintro e w' ⟨rfl, ⟨nd, rfl⟩⟩) | (go_at_call 32; (with_reducible refine (verdict_Sure.calls 1 true _ A22.out).mono ?_); rintro e w' ⟨rfl, ⟨nd, rfl⟩⟩) | (go_at_call 32; (with_reducible refine (verdict_Sure.calls 2 t388 _ A24.out).mono ?_); rintro e w' ⟨rfl, ⟨nd, rfl⟩⟩))
 go_ret
 exact bF
end Go.Proofs.Ytfeekdoakoabeaa.G
