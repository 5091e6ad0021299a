-- Written by a program of this session out of the translation; Lean checks it.
import Derived.Test.YtjmibjmlihmglaaGx0
import Derived.Test.YtjmibjmlihmglaaGx1
import Derived.Test.YtjmibjmlihmglaaGx14
import Derived.Test.YtjmibjmlihmglaaGx16
import Derived.Test.YtjmibjmlihmglaaGx17
import Derived.Test.YtjmibjmlihmglaaGx20
import Derived.Test.YtjmibjmlihmglaaGx22
import Derived.Test.YtjmibjmlihmglaaGx23
namespace Go.Proofs.Ytjmibjmlihmglaa.G
open Go.RowKit Go.Proofs.YtjmibjmlihmglaaW.PrintWords Go.Proofs.YtjmibjmlihmglaaW.PrintLast Go.Proofs.YtjmibjmlihmglaaW.PrintMore
attribute [local go_sem] max2_int min2_int max_two min_two max_three min_three max_four min_four   -- for this text's walks alone
set_option linter.unusedVariables false
set_option linter.unusedSimpArgs false

attribute [local go_sem high] eqA41
/-! ### apogeeref11_Left: function 35 -/
def apogeeref11_Left.l0 : Nat → List (S41) → Int → Int → Int → Option (Bool)
 | 0, _, _, _, _ => none
 | k + 1, x0, x4, x487000, x487001 => if x4 < (x0.length : Int) then ((apogeeref11_next.f x0 x4).bind fun bt488 => (if 0 ≤ x4 then ((apogeeref01_Mul.f k ((rd_T41 x0 x4).f0) bt488.2).bind fun bt492 => ((apogeeref01_Add.f k x487000 x487001 bt492.1 bt492.2).bind fun bt494 => ((apogeeref01_Mul.f k ((rd_T41 x0 x4).f1) bt488.1).bind fun bt498 => ((apogeeref01_Sub.f k bt494.1 bt494.2.1 bt498.1 bt498.2).bind fun bt500 => (apogeeref11_Left.l0 k x0 (wrap64 (x4 + 1)) bt500.1 bt500.2.1))))) else (none))) else ((apogeeref01_Cmp.f k x487000 x487001 0 0).bind fun t487 => (some (decide (t487 > 0))))
def apogeeref11_Left.f (k : Nat) (l0 : List (S41)) : Option (Bool) := (apogeeref11_Right.f k l0).bind fun t485 => (if t485 = true then (apogeeref11_Left.l0 k l0 0 0 0) else (some false))
theorem apogeeref11_Left.mono_l : ∀ k, (∀ y0 y1 y2 y3, LeO (apogeeref11_Left.l0 k y0 y1 y2 y3) (apogeeref11_Left.l0 (k + 1) y0 y1 y2 y3))
 | 0 => fun _ _ _ _ r h => by simp [apogeeref11_Left.l0] at h
 | k + 1 => by
  have ih0 := apogeeref11_Left.mono_l k
  ·intro y0 y1 y2 y3
   unfold apogeeref11_Left.l0
   repeat' first
   | (with_reducible exact ih0 _ _ _ _)
   | (with_reducible exact apogeeref01_Add.mono _ _ _ _ _)
   | (with_reducible exact apogeeref01_Cmp.mono _ _ _ _ _)
   | (with_reducible exact apogeeref01_Mul.mono _ _ _)
   | (with_reducible exact apogeeref01_Sub.mono _ _ _ _ _)
   | (with_reducible exact apogeeref11_Right.mono _ _)
   | (with_reducible exact LeO.refl _)
   | (with_reducible exact LeO.none _)
   | (with_reducible refine LeO.ite ?_ ?_)
   | (with_reducible refine LeO.bind ?_ (fun _ => ?_))
   | exact ih0 _ _ _ _
   | exact apogeeref01_Add.mono _ _ _ _ _
   | exact apogeeref01_Cmp.mono _ _ _ _ _
   | exact apogeeref01_Mul.mono _ _ _
   | exact apogeeref01_Sub.mono _ _ _ _ _
   | exact apogeeref11_Right.mono _ _
   | exact LeO.none _
   | refine LeO.ite ?_ ?_
   | refine LeO.bind ?_ (fun _ => ?_)
theorem apogeeref11_Left.mono : ∀ a0 k, LeO (apogeeref11_Left.f k a0) (apogeeref11_Left.f (k + 1) a0) := by
 intro a0 k
 have ih0 := apogeeref11_Left.mono_l k
 unfold apogeeref11_Left.f
 repeat' first
   | (with_reducible exact ih0 _ _ _ _)
   | (with_reducible exact apogeeref01_Add.mono _ _ _ _ _)
   | (with_reducible exact apogeeref01_Cmp.mono _ _ _ _ _)
   | (with_reducible exact apogeeref01_Mul.mono _ _ _)
   | (with_reducible exact apogeeref01_Sub.mono _ _ _ _ _)
   | (with_reducible exact apogeeref11_Right.mono _ _)
   | (with_reducible exact LeO.refl _)
   | (with_reducible exact LeO.none _)
   | (with_reducible refine LeO.ite ?_ ?_)
   | (with_reducible refine LeO.bind ?_ (fun _ => ?_))
   | exact ih0 _ _ _ _
   | exact apogeeref01_Add.mono _ _ _ _ _
   | exact apogeeref01_Cmp.mono _ _ _ _ _
   | exact apogeeref01_Mul.mono _ _ _
   | exact apogeeref01_Sub.mono _ _ _ _ _
   | exact apogeeref11_Right.mono _ _
   | exact LeO.none _
   | refine LeO.ite ?_ ?_
   | refine LeO.bind ?_ (fun _ => ?_)
def apogeeref11_Left.T8 : Bool × List (List Nat × List Nat) := (true, [([], []), ([], []), ([], []), ([1, 2], [1, 2]), ([3], [3]), ([4], [4]), ([], []), ([6], [6]), ([5, 7], [5, 7]), ([0, 8, 8], [0, 8]), ([9], [9]), ([10], [10]), ([10], [10]), ([11, 9, 0, 1, 2, 3, 4, 5, 6, 7, 8, 9, 10, 11], [11])])
def apogeeref11_Left.B8 : List Nat := [0, 0, 0, 6, 14, 30, 0, 64, 254, 511, 1023, 2047, 2047, 4095]
theorem apogeeref11_Left.tab8 : rtab .any (opsOf Try.f35 8) = apogeeref11_Left.T8 := by kernel_rfl
theorem apogeeref11_Left.bits8 : waitsOk apogeeref11_Left.T8.2 apogeeref11_Left.B8 = true := by kernel_rfl
def apogeeref11_Left.T9 : Bool × List (List Nat × List Nat) := (true, [([], []), ([], []), ([], []), ([1, 2], [1, 2]), ([3], [3]), ([4], [4]), ([], []), ([6], [6]), ([5, 7], [5, 7]), ([0, 8, 8], [0, 8]), ([9], [9]), ([10], [10]), ([10], [10]), ([11, 9, 0, 1, 2, 3, 4, 5, 6, 7, 8, 9, 10, 11], [11])])
def apogeeref11_Left.B9 : List Nat := [0, 0, 0, 6, 14, 30, 0, 64, 254, 511, 1023, 2047, 2047, 4095]
theorem apogeeref11_Left.tab9 : rtab .any (opsOf Try.f35 9) = apogeeref11_Left.T9 := by kernel_rfl
theorem apogeeref11_Left.bits9 : waitsOk apogeeref11_Left.T9.2 apogeeref11_Left.B9 = true := by kernel_rfl
set_option maxHeartbeats 8000000 in
set_option maxRecDepth 100000 in
theorem apogeeref11_Left.calls (k : Nat) (A0 : Option Addr) (c0 : Nat) (l0 : List (S41)) (r : Bool) (w : World) (hr0 : Kd.C k41 w A0 l0.length l0) (hc0 : l0.length ≤ c0) (h : apogeeref11_Left.f k l0 = some r) :
  Calls Try.prog 35 #[.slice A0 l0.length c0] w fun e w' => e = .returned (.bool r) ∧ Below w.heap.size w w' := by
 have hu90 := Try.underlying90
 have hu41 := Try.underlying41
 have HR0 := bA hr0
 have HC0 := bA hc0
 clear hr0 hc0
 have HB := bA (Below.refl w.heap.size w)
 have H : ((apogeeref11_Right.f k l0).bind fun t485 => (if t485 = true then (apogeeref11_Left.l0 k l0 0 0 0) else (some false))) = some r := h
 clear h
 replace H := Option.bind_eq_some_iff.mp H
 obtain ⟨t485, A20, H⟩ := H
 have A2 := bA A20
 clear A20
 by_cases c3 : t485 = true
 rotate_left
 ·replace c3 := Bool.eq_false_iff.mpr c3
  subst c3
  rw [if_neg bn] at H
  obtain rfl := Option.some.inj H
  go_enter Try.func35, Try.ntmps35
  go_wp2_with (first | ((first | ((with_reducible refine gate_callee (f := 28) rfl ?_); refine bC (some 7) Try.func28 #[.slice A0 l0.length c0] ?_) | go_at_call 28); (with_reducible refine (apogeeref11_Right.calls k _ _ l0 false _ ?side1 ?side2 A2.out).mono ?_); (case side1 => repeat (first | exact HR0.out | (with_reducible refine Kd.C_alloc ?_ _) | (with_reducible refine Kd.C_drewN ?_ _) | (with_reducible refine Kd.C_drew ?_))); (case side2 => exact HC0.out); rintro e w33 ⟨rfl, hb⟩; (first | refine ⟨_, rfl, ?_⟩ | skip); replace HB := bA (bS hb); (try clear hb)))
  go_ret
  exact bF
 subst c3
 rw [if_pos rfl] at H
 have H' := bA H
 clear H
 go_enter Try.func35, Try.ntmps35
 go_wp2_with (first | ((first | ((with_reducible refine gate_callee (f := 28) rfl ?_); refine bC (some 7) Try.func28 #[.slice A0 l0.length c0] ?_) | go_at_call 28); (with_reducible refine (apogeeref11_Right.calls k _ _ l0 true _ ?side1 ?side2 A2.out).mono ?_); (case side1 => repeat (first | exact HR0.out | (with_reducible refine Kd.C_alloc ?_ _) | (with_reducible refine Kd.C_drewN ?_ _) | (with_reducible refine Kd.C_drew ?_))); (case side2 => exact HC0.out); rintro e w4 ⟨rfl, hb⟩; (first | refine ⟨_, rfl, ?_⟩ | skip); replace HB := bA (bS hb); (try clear hb)) | ((with_reducible refine gate_dst (N := 3) rfl ?_); refine bE (N := 3) (cs := #[.int .i64 0, .int .u64 0]) (t := 90) ?_; intro gb486 hg w5 hbox hb; have BK486 := bA (hbox); have GW486 := bA (bZ hg); have GE486 := bA (bZ hg); replace HB := bA (bS hb); clear hb hbox hg; obtain ⟨hcz6_0, hcz6_1, hfz6_0, hfz6_1⟩ := bc2 BK486))
 go_loopg [4] k (fun kq v4 w' => ∃ (x4_1 : Int) (x487000_1 : Int) (x487001_1 : Int), v4 = .int .i64 x4_1 ∧ Aside0 (apogeeref11_Left.l0 kq l0 x4_1 x487000_1 x487001_1 = some r) ∧ Aside0 (kq ≤ k) ∧ Aside0 (w'.heap[gb486]? = some (.cells #[.int .i64 x487000_1, .int .u64 x487001_1] 90 (0, 0))) ∧ Aside0 (Below w.heap.size w w'))
 case atStart => exact ⟨(0), (0), (0), bs, H', ⟨Nat.le_refl _⟩, ⟨by (with_reducible repeat (first | refine blk_drewN ?_ _ | refine blk_drew ?_ | refine blk_alloc ?_ _)); refine blk_put (cs := #[.int .i64 0, .int .u64 0]) ?_ 1 _ rfl; (with_reducible repeat (first | refine blk_drewN ?_ _ | refine blk_drew ?_ | refine blk_alloc ?_ _)); refine blk_put (cs := #[.int .i64 0, .int .u64 0]) ?_ 0 _ rfl; (with_reducible repeat (first | refine blk_drewN ?_ _ | refine blk_drew ?_ | refine blk_alloc ?_ _)); exact BK486.out⟩, ⟨bX⟩⟩
 clear H'
 try clear c2
 try clear p2
 try clear c3
 try clear hcz6_0
 try clear hcz6_1
 try clear hfz6_0
 try clear hfz6_1
 obtain ⟨x4_1, x487000_1, x487001_1, rfl, HA, HK1, BK486, HB⟩ := hrel
 cases gk with
 | zero => exact absurd HA.out (by simp [apogeeref11_Left.l0])
 | succ k1 =>
  have H := HA.out
  clear HA
  simp only [apogeeref11_Left.l0] at H
  by_cases c7 : x4_1 < (l0.length : Int)
  rotate_left
  ·rw [if_neg c7] at H
   have c7b0 : decide (x4_1 < (l0.length : Int)) = false := decide_eq_false c7
   clear c7
   replace H := Option.bind_eq_some_iff.mp H
   obtain ⟨t487, A300, H⟩ := H
   have A30 := bA A300
   clear A300
   obtain rfl := Option.some.inj H
   obtain ⟨hcz31_0, hcz31_1, hfz31_0, hfz31_1⟩ := bc2 BK486
   go_wp2_with (first | ((first | ((with_reducible refine gate_callee (f := 83) rfl ?_); refine bC (some 47) Try.func83 #[.agg #[.int .i64 x487000_1, .int .u64 x487001_1], .agg #[.int .i64 0, .int .u64 0]] ?_) | go_at_call 83); (with_reducible refine (apogeeref01_Cmp.calls k1 x487000_1 x487001_1 0 0 t487 _ A30.out).mono ?_); rintro e w32 ⟨rfl, hb⟩; (first | refine ⟨_, rfl, ?_⟩ | skip); replace BK486 := bA (bB BK486 hb); replace HB := bA (bS hb); (try clear hb)))
   go_ret
   exact bF
  rw [if_pos c7] at H
  have c7b0 : decide (x4_1 < (l0.length : Int)) = true := decide_eq_true c7
  clear c7
  replace H := Option.bind_eq_some_iff.mp H
  obtain ⟨⟨t488, t489⟩, A80, H⟩ := H
  replace H : (if 0 ≤ x4_1 then ((apogeeref01_Mul.f k1 ((rd_T41 l0 x4_1).f0) t489).bind fun bt492 => ((apogeeref01_Add.f k1 x487000_1 x487001_1 bt492.1 bt492.2).bind fun bt494 => ((apogeeref01_Mul.f k1 ((rd_T41 l0 x4_1).f1) t488).bind fun bt498 => ((apogeeref01_Sub.f k1 bt494.1 bt494.2.1 bt498.1 bt498.2).bind fun bt500 => (apogeeref11_Left.l0 k1 l0 (wrap64 (x4_1 + 1)) bt500.1 bt500.2.1))))) else (none)) = some r := H
  have A8 := bA A80
  clear A80
  by_cases c9 : 0 ≤ x4_1
  rotate_left
  ·rw [if_neg c9] at H
   exact absurd H (by simp)
  rw [if_pos c9] at H
  have c9b0 : decide (0 ≤ x4_1) = true := decide_eq_true c9
  clear c9
  replace H := Option.bind_eq_some_iff.mp H
  obtain ⟨⟨t492, t493⟩, A100, H⟩ := H
  replace H : ((apogeeref01_Add.f k1 x487000_1 x487001_1 t492 t493).bind fun bt494 => ((apogeeref01_Mul.f k1 ((rd_T41 l0 x4_1).f1) t488).bind fun bt498 => ((apogeeref01_Sub.f k1 bt494.1 bt494.2.1 bt498.1 bt498.2).bind fun bt500 => (apogeeref11_Left.l0 k1 l0 (wrap64 (x4_1 + 1)) bt500.1 bt500.2.1)))) = some r := H
  have A10 := bA A100
  clear A100
  replace H := Option.bind_eq_some_iff.mp H
  obtain ⟨⟨t494, t495, t496⟩, A110, H⟩ := H
  replace H : ((apogeeref01_Mul.f k1 ((rd_T41 l0 x4_1).f1) t488).bind fun bt498 => ((apogeeref01_Sub.f k1 t494 t495 bt498.1 bt498.2).bind fun bt500 => (apogeeref11_Left.l0 k1 l0 (wrap64 (x4_1 + 1)) bt500.1 bt500.2.1))) = some r := H
  have A11 := bA A110
  clear A110
  replace H := Option.bind_eq_some_iff.mp H
  obtain ⟨⟨t498, t499⟩, A120, H⟩ := H
  replace H : ((apogeeref01_Sub.f k1 t494 t495 t498 t499).bind fun bt500 => (apogeeref11_Left.l0 k1 l0 (wrap64 (x4_1 + 1)) bt500.1 bt500.2.1)) = some r := H
  have A12 := bA A120
  clear A120
  replace H := Option.bind_eq_some_iff.mp H
  obtain ⟨⟨t500, t501, t502⟩, A130, H⟩ := H
  replace H : (apogeeref11_Left.l0 k1 l0 (wrap64 (x4_1 + 1)) t500 t501) = some r := H
  have A13 := bA A130
  clear A130
  have H' := bA H
  clear H
  try go_wp2_with (first | ((first | ((with_reducible refine gate_callee (f := 69) rfl ?_); refine bC (some 18) Try.func69 #[.slice A0 l0.length c0, .int .i64 x4_1] ?_) | go_at_call 69); (with_reducible refine (apogeeref11_next.calls _ _ l0 x4_1 t488 t489 _ ?side1 ?side2 A8.out).mono ?_); (case side1 => exact bQ HR0); (case side2 => exact HC0.out); rintro e w14 ⟨rfl, hb⟩; (first | refine ⟨_, rfl, ?_⟩ | skip); replace BK486 := bA (bB BK486 hb); replace HB := bA (bS hb); (try clear hb)) | ((with_reducible refine gate_dst (N := 5) rfl ?_); refine bE (N := 5) (cs := #[.int .i64 0, .int .i64 0]) (t := 41) ?_; intro gb490 hg w15 hbox hb; have BK490 := bA (hbox); have GW490 := bA (bZ hg); have GE490 := bA (bZ hg); have NB486_490 := bA (bL BK486 hg); have NB490_486 := bA (bG BK486 hg); replace BK486 := bA (bB BK486 hb); replace HB := bA (bS hb); clear hb hbox hg; have hnb16 := NB490_486.out; have hnc16 := NB486_490.out; obtain ⟨hcz17_0, hcz17_1, hfz17_0, hfz17_1⟩ := bc2 BK490))
  have n0_ : Aside0 (((w15.setCell ⟨gb490, 0, none⟩ (.int .i64 t488)).setCell ⟨gb490, 1, none⟩ (.int .i64 t489)).heap[gb486]? = some (.cells #[.int .i64 x487000_1, .int .u64 x487001_1] 90 (0, 0))) := ⟨by (repeat ((with_reducible repeat (first | refine blk_drewN ?_ _ | refine blk_drew ?_ | refine blk_alloc ?_ _)); refine blk_far ?_ NB486_490.out _)); (with_reducible repeat (first | refine blk_drewN ?_ _ | refine blk_drew ?_ | refine blk_alloc ?_ _)); exact BK486.out⟩
  have n1_ : Aside0 (((w15.setCell ⟨gb490, 0, none⟩ (.int .i64 t488)).setCell ⟨gb490, 1, none⟩ (.int .i64 t489)).heap[gb490]? = some (.cells #[.int .i64 t488, .int .i64 t489] 41 (0, 0))) := ⟨by (with_reducible repeat (first | refine blk_drewN ?_ _ | refine blk_drew ?_ | refine blk_alloc ?_ _)); refine blk_put (cs := #[.int .i64 t488, .int .i64 0]) ?_ 1 _ rfl; (with_reducible repeat (first | refine blk_drewN ?_ _ | refine blk_drew ?_ | refine blk_alloc ?_ _)); refine blk_put (cs := #[.int .i64 0, .int .i64 0]) ?_ 0 _ rfl; (with_reducible repeat (first | refine blk_drewN ?_ _ | refine blk_drew ?_ | refine blk_alloc ?_ _)); exact BK490.out⟩
  have n2_ : Aside0 (Below w.heap.size w ((w15.setCell ⟨gb490, 0, none⟩ (.int .i64 t488)).setCell ⟨gb490, 1, none⟩ (.int .i64 t489))) := ⟨bX⟩
  (try clear BK486)
  (try clear BK490)
  (try clear HB)
  generalize ((w15.setCell ⟨gb490, 0, none⟩ (.int .i64 t488)).setCell ⟨gb490, 1, none⟩ (.int .i64 t489)) = w18 at n0_ n1_ n2_ ⊢
  have BK486 := n0_
  have BK490 := n1_
  have HB := n2_
  clear n0_ n1_ n2_
  replace BK486 := bA (blk_drew BK486.out)
  replace BK490 := bA (blk_drew BK490.out)
  replace HB := bA (below_drew1 HB.out)
  have p491 : 0 ≤ (x4_1 : Int) := bo
  have q491 : x4_1 < (l0.length : Int) := bo
  obtain ⟨ad491, e491, hx491_0, hx491_1⟩ := at_T41 HR0.out x4_1 p491 q491
  have hw491_1 := hx491_1
  have hw491_0 := hx491_0
  cases e491
  replace hx491_0 := bK hx491_0
  replace hx491_1 := bK hx491_1
  replace p491 := eq_true p491
  replace q491 := eq_true q491
  refine start_ (n := 14) (S := fun w' => w'.cell? ⟨gb486, 0, none⟩ = some (.int .i64 x487000_1) ∧ w'.cell? ⟨gb486, 1, none⟩ = some (.int .u64 x487001_1) ∧ w'.cell? ⟨gb490, 0, none⟩ = some (.int .i64 t488) ∧ w'.cell? ⟨gb490, 1, none⟩ = some (.int .i64 t489) ∧ w'.cell? (ad491.add ((x4_1).toNat * 2)) = some (.int .i64 ((rd_T41 l0 x4_1).f0)) ∧ w'.cell? ⟨(ad491.add ((x4_1).toNat * 2)).block, (ad491.add ((x4_1).toNat * 2)).off + 1, none⟩ = some (.int .i64 ((rd_T41 l0 x4_1).f1))) (ds := [13]) #[false,false,false,false,false,false,false,false,false,false,false,false,false,false] (by kernel_rfl) rfl rfl ⟨bq BK486 0, bq BK486 1, bq BK490 0, bq BK490 1, (bK hw491_0), (bK hw491_1)⟩ (fun hHeld => ?_); refine with_tabW apogeeref11_Left.tab8 apogeeref11_Left.bits8 (fun HT_ HW_ => ?_)
  generalize w18.drew = w19 at BK486 BK490 HB hx491_0 hx491_1 hHeld ⊢
  refine bU (i := 1) (N := some 21) ?_
  refine bU (i := 2) (N := some 22) ?_
  refine bU (i := 3) (N := some 23) ?_
  refine bU (i := 4) (N := some 24) ?_
  refine bU (i := 6) (N := some 26) ?_
  refine bW (i := 0) (N := some 20) hHeld ?_
  refine bW (i := 5) (N := some 25) hHeld ?_
  refine bW (i := 7) (N := some 27) hHeld ?_
  refine one_ (i := 8) (N := some 28) #[true,true,true,true,true,true,true,true,true,false,false,false,false,false] rfl rfl (one_of HT_.out (by kernel_rfl)) (by decide) (fun K hK => ?_)
  refine goes_ Try.func81 (by kernel_rfl) rfl #[.int .i64 ((rd_T41 l0 x4_1).f0), .int .i64 t489] (by rfl) rfl rfl (by (try simp only [List.map_toArray, List.map_cons, List.map_nil]); first | done | rfl | (simp only [List.length_drop, List.length_take]; rfl)) ?_
  with_reducible refine (apogeeref01_Mul.calls k1 ((rd_T41 l0 x4_1).f0) t489 t492 t493 _ A10.out).mono ?_
  rintro e w20 ⟨rfl, hb⟩
  refine ⟨_, rfl, ?_⟩
  replace BK486 := bA (bB BK486 hb)
  replace BK490 := bA (bB BK490 hb)
  replace HB := bA (bS hb)
  (try clear hb)
  refine hK.out _ _ ⟨bq BK486 0, bq BK486 1, bq BK490 0, bq BK490 1, (bK hw491_0), (bK hw491_1)⟩ (fun hHeld => ?_)
  clear hK K
  refine bH ?_
  refine one_ (i := 9) (N := some 29) #[true,true,true,true,true,true,true,true,true,true,false,false,false,false] rfl rfl (one_of HT_.out (by kernel_rfl)) (by decide) (fun K hK => ?_)
  refine goes_ Try.func80 (by kernel_rfl) rfl #[.agg #[.int .i64 x487000_1, .int .u64 x487001_1], .agg #[.int .i64 t492, .int .u64 t493]] (by rfl) rfl rfl (by (try simp only [List.map_toArray, List.map_cons, List.map_nil]); first | done | rfl | (simp only [List.length_drop, List.length_take]; rfl)) ?_
  with_reducible refine (apogeeref01_Add.calls k1 x487000_1 x487001_1 t492 t493 t494 t495 t496 _ A11.out).mono ?_
  rintro e w21 ⟨rfl, hb⟩
  refine ⟨_, rfl, ?_⟩
  replace BK486 := bA (bB BK486 hb)
  replace BK490 := bA (bB BK490 hb)
  replace HB := bA (bS hb)
  (try clear hb)
  refine hK.out _ _ ⟨bq BK486 0, bq BK486 1, bq BK490 0, bq BK490 1, (bK hw491_0), (bK hw491_1)⟩ (fun hHeld => ?_)
  clear hK K
  refine bH ?_
  refine bU (i := 10) (N := some 19) ?_
  refine bU (i := 11) (N := some 30) ?_
  refine bU (i := 12) (N := some 31) ?_
  refine last_ (i := 13) (N := none) #[true,true,true,true,true,true,true,true,true,true,true,true,true,true] rfl rfl (one_of HT_.out (by kernel_rfl)) (by decide) (fun K hK => ?_)
  have hs22 : w21.cell? ⟨gb486, 0, none⟩ = some (.int .i64 x487000_1) := bq BK486 0
  have hfs22 := blk_frozen BK486.out 0
  have hns22_1 := NB490_486.out
  have hms22_1 := NB486_490.out
  have hs23 : w21.cell? ⟨gb486, 1, none⟩ = some (.int .u64 x487001_1) := bq BK486 1
  have hfs23 := blk_frozen BK486.out 1
  have hns23_1 := NB490_486.out
  have hms23_1 := NB486_490.out
  refine skip_ (w1 := ?_) (by rfl) rfl ?_ ?_
  rotate_left
  ·go_simp
   rfl
  refine hK.out _ _ ?_
  clear hK K
  refine done_ (done_of HT_.out (by kernel_rfl)) ?_
  try go_wp2
  have n0_ : Aside0 (((w21.setCell ⟨gb486, 0, none⟩ (.int .i64 t494)).setCell ⟨gb486, 1, none⟩ (.int .u64 t495)).heap[gb486]? = some (.cells #[.int .i64 t494, .int .u64 t495] 90 (0, 0))) := ⟨by (with_reducible repeat (first | refine blk_drewN ?_ _ | refine blk_drew ?_ | refine blk_alloc ?_ _)); refine blk_put (cs := #[.int .i64 t494, .int .u64 x487001_1]) ?_ 1 _ rfl; (with_reducible repeat (first | refine blk_drewN ?_ _ | refine blk_drew ?_ | refine blk_alloc ?_ _)); refine blk_put (cs := #[.int .i64 x487000_1, .int .u64 x487001_1]) ?_ 0 _ rfl; (with_reducible repeat (first | refine blk_drewN ?_ _ | refine blk_drew ?_ | refine blk_alloc ?_ _)); exact BK486.out⟩
  have n1_ : Aside0 (((w21.setCell ⟨gb486, 0, none⟩ (.int .i64 t494)).setCell ⟨gb486, 1, none⟩ (.int .u64 t495)).heap[gb490]? = some (.cells #[.int .i64 t488, .int .i64 t489] 41 (0, 0))) := ⟨by (repeat ((with_reducible repeat (first | refine blk_drewN ?_ _ | refine blk_drew ?_ | refine blk_alloc ?_ _)); refine blk_far ?_ NB490_486.out _)); (with_reducible repeat (first | refine blk_drewN ?_ _ | refine blk_drew ?_ | refine blk_alloc ?_ _)); exact BK490.out⟩
  have n2_ : Aside0 (Below w.heap.size w ((w21.setCell ⟨gb486, 0, none⟩ (.int .i64 t494)).setCell ⟨gb486, 1, none⟩ (.int .u64 t495))) := ⟨bX⟩
  (try clear BK486)
  (try clear BK490)
  (try clear HB)
  generalize ((w21.setCell ⟨gb486, 0, none⟩ (.int .i64 t494)).setCell ⟨gb486, 1, none⟩ (.int .u64 t495)) = w24 at n0_ n1_ n2_ ⊢
  have BK486 := n0_
  have BK490 := n1_
  have HB := n2_
  clear n0_ n1_ n2_
  replace BK486 := bA (blk_drew BK486.out)
  replace BK490 := bA (blk_drew BK490.out)
  replace HB := bA (below_drew1 HB.out)
  have p497 : 0 ≤ (x4_1 : Int) := bo
  have q497 : x4_1 < (l0.length : Int) := bo
  obtain ⟨ad497, e497, hx497_0, hx497_1⟩ := at_T41 HR0.out x4_1 p497 q497
  have hw497_1 := hx497_1
  have hw497_0 := hx497_0
  obtain rfl : ad491 = ad497 := (by injection e497)
  replace hx497_0 := bK hx497_0
  replace hx497_1 := bK hx497_1
  replace p497 := eq_true p497
  replace q497 := eq_true q497
  refine start_ (n := 14) (S := fun w' => w'.cell? ⟨gb486, 0, none⟩ = some (.int .i64 t494) ∧ w'.cell? ⟨gb486, 1, none⟩ = some (.int .u64 t495) ∧ w'.cell? ⟨gb490, 0, none⟩ = some (.int .i64 t488) ∧ w'.cell? ⟨gb490, 1, none⟩ = some (.int .i64 t489) ∧ w'.cell? (ad491.add ((x4_1).toNat * 2)) = some (.int .i64 ((rd_T41 l0 x4_1).f0)) ∧ w'.cell? ⟨(ad491.add ((x4_1).toNat * 2)).block, (ad491.add ((x4_1).toNat * 2)).off + 1, none⟩ = some (.int .i64 ((rd_T41 l0 x4_1).f1))) (ds := [13]) #[false,false,false,false,false,false,false,false,false,false,false,false,false,false] (by kernel_rfl) rfl rfl ⟨bq BK486 0, bq BK486 1, bq BK490 0, bq BK490 1, (bK hw497_0), (bK hw497_1)⟩ (fun hHeld => ?_); refine with_tabW apogeeref11_Left.tab9 apogeeref11_Left.bits9 (fun HT_ HW_ => ?_)
  generalize w24.drew = w25 at BK486 BK490 HB hx497_0 hx497_1 hHeld ⊢
  refine bU (i := 1) (N := some 34) ?_
  refine bU (i := 2) (N := some 35) ?_
  refine bU (i := 3) (N := some 36) ?_
  refine bU (i := 4) (N := some 37) ?_
  refine bU (i := 6) (N := some 39) ?_
  refine bW (i := 0) (N := some 33) hHeld ?_
  refine bW (i := 5) (N := some 38) hHeld ?_
  refine bW (i := 7) (N := some 40) hHeld ?_
  refine one_ (i := 8) (N := some 41) #[true,true,true,true,true,true,true,true,true,false,false,false,false,false] rfl rfl (one_of HT_.out (by kernel_rfl)) (by decide) (fun K hK => ?_)
  refine goes_ Try.func81 (by kernel_rfl) rfl #[.int .i64 ((rd_T41 l0 x4_1).f1), .int .i64 t488] (by rfl) rfl rfl (by (try simp only [List.map_toArray, List.map_cons, List.map_nil]); first | done | rfl | (simp only [List.length_drop, List.length_take]; rfl)) ?_
  with_reducible refine (apogeeref01_Mul.calls k1 ((rd_T41 l0 x4_1).f1) t488 t498 t499 _ A12.out).mono ?_
  rintro e w26 ⟨rfl, hb⟩
  refine ⟨_, rfl, ?_⟩
  replace BK486 := bA (bB BK486 hb)
  replace BK490 := bA (bB BK490 hb)
  replace HB := bA (bS hb)
  (try clear hb)
  refine hK.out _ _ ⟨bq BK486 0, bq BK486 1, bq BK490 0, bq BK490 1, (bK hw497_0), (bK hw497_1)⟩ (fun hHeld => ?_)
  clear hK K
  refine bH ?_
  refine one_ (i := 9) (N := some 42) #[true,true,true,true,true,true,true,true,true,true,false,false,false,false] rfl rfl (one_of HT_.out (by kernel_rfl)) (by decide) (fun K hK => ?_)
  refine goes_ Try.func82 (by kernel_rfl) rfl #[.agg #[.int .i64 t494, .int .u64 t495], .agg #[.int .i64 t498, .int .u64 t499]] (by rfl) rfl rfl (by (try simp only [List.map_toArray, List.map_cons, List.map_nil]); first | done | rfl | (simp only [List.length_drop, List.length_take]; rfl)) ?_
  with_reducible refine (apogeeref01_Sub.calls k1 t494 t495 t498 t499 t500 t501 t502 _ A13.out).mono ?_
  rintro e w27 ⟨rfl, hb⟩
  refine ⟨_, rfl, ?_⟩
  replace BK486 := bA (bB BK486 hb)
  replace BK490 := bA (bB BK490 hb)
  replace HB := bA (bS hb)
  (try clear hb)
  refine hK.out _ _ ⟨bq BK486 0, bq BK486 1, bq BK490 0, bq BK490 1, (bK hw497_0), (bK hw497_1)⟩ (fun hHeld => ?_)
  clear hK K
  refine bH ?_
  refine bU (i := 10) (N := some 32) ?_
  refine bU (i := 11) (N := some 43) ?_
  refine bU (i := 12) (N := some 44) ?_
  refine last_ (i := 13) (N := none) #[true,true,true,true,true,true,true,true,true,true,true,true,true,true] rfl rfl (one_of HT_.out (by kernel_rfl)) (by decide) (fun K hK => ?_)
  have hs28 : w27.cell? ⟨gb486, 0, none⟩ = some (.int .i64 t494) := bq BK486 0
  have hfs28 := blk_frozen BK486.out 0
  have hns28_1 := NB490_486.out
  have hms28_1 := NB486_490.out
  have hs29 : w27.cell? ⟨gb486, 1, none⟩ = some (.int .u64 t495) := bq BK486 1
  have hfs29 := blk_frozen BK486.out 1
  have hns29_1 := NB490_486.out
  have hms29_1 := NB486_490.out
  refine skip_ (w1 := ?_) (by rfl) rfl ?_ ?_
  rotate_left
  ·go_simp
   rfl
  refine hK.out _ _ ?_
  clear hK K
  refine done_ (done_of HT_.out (by kernel_rfl)) ?_
  try go_wp2
  go_roundg k1
  case measure => have := HK1.out; omega
  case rel => exact ⟨(wrap64 (x4_1 + 1)), (t500), (t501), bs, H', ⟨by have := HK1.out; omega⟩, ⟨by (with_reducible repeat (first | refine blk_drewN ?_ _ | refine blk_drew ?_ | refine blk_alloc ?_ _)); refine blk_put (cs := #[.int .i64 t500, .int .u64 t495]) ?_ 1 _ rfl; (with_reducible repeat (first | refine blk_drewN ?_ _ | refine blk_drew ?_ | refine blk_alloc ?_ _)); refine blk_put (cs := #[.int .i64 t494, .int .u64 t495]) ?_ 0 _ rfl; (with_reducible repeat (first | refine blk_drewN ?_ _ | refine blk_drew ?_ | refine blk_alloc ?_ _)); exact BK486.out⟩, ⟨bX⟩⟩
/-! ### apogeeref11_Back: function 38 -/
def apogeeref11_Back.l0 : Nat → List (S41) → List (S41) → Int → Option ((List (S41)))
 | 0, _, _, _ => none
 | k + 1, x0, x3, x4 => if x4 < (x0.length : Int) then (if (x0.length : Int) = 0 then (none) else (if 0 ≤ (Int.tmod (wrap64 ((x0.length : Int) - x4)) (x0.length : Int)) then (if (Int.tmod (wrap64 ((x0.length : Int) - x4)) (x0.length : Int)) < (x0.length : Int) then (if x3.length < 8796093022208 then (apogeeref11_Back.l0 k x0 (x3 ++ [(⟨(rd_T41 x0 (Int.tmod (wrap64 ((x0.length : Int) - x4)) (x0.length : Int))).f0, (rd_T41 x0 (Int.tmod (wrap64 ((x0.length : Int) - x4)) (x0.length : Int))).f1⟩ : S41)]) (wrap64 (x4 + 1))) else (none)) else (none)) else (none))) else (some x3)
def apogeeref11_Back.f (k : Nat) (l0 : List (S41)) : Option ((List (S41))) := apogeeref11_Back.l0 k l0 ([] : List (S41)) 0
theorem apogeeref11_Back.mono_l : ∀ k, (∀ y0 y1 y2, LeO (apogeeref11_Back.l0 k y0 y1 y2) (apogeeref11_Back.l0 (k + 1) y0 y1 y2))
 | 0 => fun _ _ _ r h => by simp [apogeeref11_Back.l0] at h
 | k + 1 => by
  have ih0 := apogeeref11_Back.mono_l k
  ·intro y0 y1 y2
   unfold apogeeref11_Back.l0
   repeat' first
   | (with_reducible exact ih0 _ _ _)
   | (with_reducible exact LeO.refl _)
   | (with_reducible exact LeO.none _)
   | (with_reducible refine LeO.ite ?_ ?_)
   | (with_reducible refine LeO.bind ?_ (fun _ => ?_))
   | exact ih0 _ _ _
   | exact LeO.none _
   | refine LeO.ite ?_ ?_
   | refine LeO.bind ?_ (fun _ => ?_)
theorem apogeeref11_Back.mono : ∀ a0 k, LeO (apogeeref11_Back.f k a0) (apogeeref11_Back.f (k + 1) a0) := by
 intro a0 k
 have ih0 := apogeeref11_Back.mono_l k
 unfold apogeeref11_Back.f
 repeat' first
   | (with_reducible exact ih0 _ _ _)
   | (with_reducible exact LeO.refl _)
   | (with_reducible exact LeO.none _)
   | (with_reducible refine LeO.ite ?_ ?_)
   | (with_reducible refine LeO.bind ?_ (fun _ => ?_))
   | exact ih0 _ _ _
   | exact LeO.none _
   | refine LeO.ite ?_ ?_
   | refine LeO.bind ?_ (fun _ => ?_)
set_option maxHeartbeats 8000000 in
set_option maxRecDepth 100000 in
theorem apogeeref11_Back.calls (k : Nat) (A0 : Option Addr) (c0 : Nat) (l0 : List (S41)) (r : List (S41)) (w : World) (hr0 : Kd.C k41 w A0 l0.length l0) (hc0 : l0.length ≤ c0) (h : apogeeref11_Back.f k l0 = some r) :
  Calls Try.prog 38 #[.slice A0 l0.length c0] w fun e w' => ∃ v0_ : Value, e = .returned (v0_) ∧ Kd.R k41 41 w' w.heap.size (fun _ => True) v0_ r ∧ Below w.heap.size w w' := by
 have hu41 := Try.underlying41
 have HR0 := bA hr0
 have HC0 := bA hc0
 clear hr0 hc0
 have HB := bA (Below.refl w.heap.size w)
 have H : (apogeeref11_Back.l0 k l0 ([] : List (S41)) 0) = some r := h
 clear h
 have H' := bA H
 clear H
 go_enter Try.func38, Try.ntmps38
 go_wp2
 go_loopg [3, 4] k (fun kq v3 v4 w' => ∃ (x3_1 : List (S41)) (x4_1 : Int), v4 = .int .i64 x4_1 ∧ Aside0 (apogeeref11_Back.l0 kq l0 x3_1 x4_1 = some r) ∧ Aside0 (kq ≤ k) ∧ Aside0 (Kd.R k41 41 w' w.heap.size (fun _ => True) v3 x3_1) ∧ Aside0 (Below w.heap.size w w'))
 case atStart => exact ⟨(([] : List (S41))), (0), bs, H', ⟨Nat.le_refl _⟩, ⟨by first | exact Kd.R_nil _ _ _ _ _ | exact Kd.N_nil _ _ _ _ _ | exact Kd.V_nil _ _ _ _ _ | exact Kd.Q_nil _ _ _ _ _ | exact Kd.S_nil _ _ _ _ _⟩, ⟨bX⟩⟩
 clear H'
 obtain ⟨x3_1, x4_1, rfl, HA, HK1, HO_3, HB⟩ := hrel
 cases gk with
 | zero => exact absurd HA.out (by simp [apogeeref11_Back.l0])
 | succ k1 =>
  have H := HA.out
  clear HA
  simp only [apogeeref11_Back.l0] at H
  by_cases c2 : x4_1 < (l0.length : Int)
  rw [if_pos c2] at H
  have c2b0 : decide (x4_1 < (l0.length : Int)) = true := decide_eq_true c2
  clear c2
  by_cases c3 : (l0.length : Int) = 0
  rw [if_pos c3] at H
  exact absurd H (by simp)
  rw [if_neg c3] at H
  have c3b0 : ((l0.length : Int) == 0) = false := beq_eq_false_iff_ne.mpr c3
  have c3b1 : ((l0.length : Int) != 0) = true := bne_iff_ne.mpr c3
  have c3b2 : ¬ (l0 = []) := fun h_ => c3 (by rw [h_]; rfl)
  obtain ⟨ji4, hji4⟩ : ∃ j_ : Int, (Int.tmod (wrap64 ((l0.length : Int) - x4_1)) (l0.length : Int)) = j_ := ⟨_, rfl⟩
  replace H : (if 0 ≤ (ji4) then (if (ji4) < (l0.length : Int) then (if x3_1.length < 8796093022208 then (apogeeref11_Back.l0 k1 l0 (x3_1 ++ [(⟨(rd_T41 l0 (ji4)).f0, (rd_T41 l0 (ji4)).f1⟩ : S41)]) (wrap64 (x4_1 + 1))) else (none)) else (none)) else (none)) = some r := by first | (rw [hji4] at H; exact H) | (simp only [hji4] at H ⊢; exact H)
  by_cases c5 : 0 ≤ (ji4)
  rw [if_pos c5] at H
  have c5b0 : decide (0 ≤ (ji4)) = true := decide_eq_true c5
  clear c5
  by_cases c6 : (ji4) < (l0.length : Int)
  rw [if_pos c6] at H
  have c6b0 : decide ((ji4) < (l0.length : Int)) = true := decide_eq_true c6
  clear c6
  by_cases c7 : x3_1.length < 8796093022208
  rw [if_pos c7] at H
  have LMc7 := bA c7
  clear c7
  obtain ⟨y504, hy504⟩ : ∃ y_ : List (S41), y_ = (x3_1 ++ [(⟨(rd_T41 l0 (ji4)).f0, (rd_T41 l0 (ji4)).f1⟩ : S41)]) := ⟨_, rfl⟩
  replace H : (apogeeref11_Back.l0 k1 l0 y504 (wrap64 (x4_1 + 1))) = some r := by first | (rw [hy504]; with_reducible exact H) | (have H2_ := (Option.bind_some _ _).symm.trans H; rw [hy504]; with_reducible exact H2_) | (have H2_ := (Option.bind_some _ _).symm.trans H; with_reducible exact H2_) | with_reducible exact H | (rw [hy504]; exact H) | exact H
  have Ny504 := bA hy504
  clear hy504
  have H' := bA H
  clear H
  have p503 : 0 ≤ ((ji4) : Int) := bo
  have q503 : (ji4) < (l0.length : Int) := bo
  obtain ⟨ad503, e503, hx503_0, hx503_1⟩ := at_T41 HR0.out (ji4) p503 q503
  cases e503
  replace hx503_0 := bK hx503_0
  replace hx503_1 := bK hx503_1
  replace p503 := eq_true p503
  replace q503 := eq_true q503
  rotate_left
  rw [if_neg c7] at H
  exact absurd H (by simp)
  rw [if_neg c6] at H
  exact absurd H (by simp)
  rw [if_neg c5] at H
  exact absurd H (by simp)
  rw [if_neg c2] at H
  have c2b0 : decide (x4_1 < (l0.length : Int)) = false := decide_eq_false c2
  clear c2
  obtain rfl := Option.some.inj H
  rotate_left
  all_goals go_wp2_with (first | ((with_reducible refine gate_builtin (b := .append) (xs := #[.tmp 11, .tmp 22]) rfl ?_); at_builtin; refine Kd.R_append k41 (w0 := w) w.heap.size rfl (.tmp 11) (.tmp 22) 28 41 (.agg #[(.int .i64 0), (.int .i64 0)]) 16 rfl Try.underlying28 info41 rfl (by decide) (by omega) u3 x3_1 (⟨(rd_T41 l0 (ji4)).f0, (rd_T41 l0 (ji4)).f1⟩ : S41) [.int .i64 ((rd_T41 l0 (ji4)).f0), .int .i64 ((rd_T41 l0 (ji4)).f1)] (fun _ => True) (fun _ => False) rfl rfl ?aP (fun _ hk => hk.elim) ?aF ?aO ?aB ?aS ?aL ?_; (case aP => exact k41_mkM _ _ _ (⟨(rd_T41 l0 (ji4)).f0, (rd_T41 l0 (ji4)).f1⟩ : S41)); (case aB => exact bX); (case aF => exact (fun _ _ => trivial)); (case aO => exact (bRr HO_3)); (case aS => exact bY); (case aL => have := LMc7.out; omega); intro v505 wz0 ho hb hg hat; rw [← Ny504.out] at ho; have HO506 := bA (ho); replace HB := bA (hb); clear HO_3; clear ho hb hg hat))
  ·go_roundg k1
   case measure => have := HK1.out; omega
   case rel => exact ⟨(y504), (wrap64 (x4_1 + 1)), bs, H', ⟨by have := HK1.out; omega⟩, ⟨bRr HO506⟩, ⟨bX⟩⟩
  go_ret
  exact ⟨_, by first | rfl | (simp [errW_none, errW_some] <;> rfl) | (simp [*, errW_none, errW_some] <;> rfl), bRr HO_3, by repeat (first | (with_reducible first | exact HB.out | apply below_alloc | apply pw_below_drewN | apply below_drew1) | exact HB.out)⟩
/-! ### apogeeref10_Same: function 36 -/
def apogeeref10_Same.l0 : Nat → List (S41) → List (S41) → Int → Option (Bool)
 | 0, _, _, _ => none
 | k + 1, x0, x1, x5 => if x5 < (x0.length : Int) then (if 0 ≤ x5 then (if x5 < (x1.length : Int) then (if (!(((rd_T41 x0 x5).f0) == ((rd_T41 x1 x5).f0)) || (!(((rd_T41 x0 x5).f1) == ((rd_T41 x1 x5).f1)))) = true then (some false) else (apogeeref10_Same.l0 k x0 x1 (wrap64 (x5 + 1)))) else (none)) else (none)) else (some true)
def apogeeref10_Same.f (k : Nat) (l0 : List (S41)) (l1 : List (S41)) : Option (Bool) := if (l0.length : Int) = (l1.length : Int) then (apogeeref10_Same.l0 k l0 l1 0) else (some false)
theorem apogeeref10_Same.mono_l : ∀ k, (∀ y0 y1 y2, LeO (apogeeref10_Same.l0 k y0 y1 y2) (apogeeref10_Same.l0 (k + 1) y0 y1 y2))
 | 0 => fun _ _ _ r h => by simp [apogeeref10_Same.l0] at h
 | k + 1 => by
  have ih0 := apogeeref10_Same.mono_l k
  ·intro y0 y1 y2
   unfold apogeeref10_Same.l0
   repeat' first
   | (with_reducible exact ih0 _ _ _)
   | (with_reducible exact LeO.refl _)
   | (with_reducible exact LeO.none _)
   | (with_reducible refine LeO.ite ?_ ?_)
   | (with_reducible refine LeO.bind ?_ (fun _ => ?_))
   | exact ih0 _ _ _
   | exact LeO.none _
   | refine LeO.ite ?_ ?_
   | refine LeO.bind ?_ (fun _ => ?_)
theorem apogeeref10_Same.mono : ∀ a0 a1 k, LeO (apogeeref10_Same.f k a0 a1) (apogeeref10_Same.f (k + 1) a0 a1) := by
 intro a0 a1 k
 have ih0 := apogeeref10_Same.mono_l k
 unfold apogeeref10_Same.f
 repeat' first
   | (with_reducible exact ih0 _ _ _)
   | (with_reducible exact LeO.refl _)
   | (with_reducible exact LeO.none _)
   | (with_reducible refine LeO.ite ?_ ?_)
   | (with_reducible refine LeO.bind ?_ (fun _ => ?_))
   | exact ih0 _ _ _
   | exact LeO.none _
   | refine LeO.ite ?_ ?_
   | refine LeO.bind ?_ (fun _ => ?_)
set_option maxHeartbeats 8000000 in
set_option maxRecDepth 100000 in
theorem apogeeref10_Same.calls (k : Nat) (A0 : Option Addr) (c0 : Nat) (l0 : List (S41)) (A1 : Option Addr) (c1 : Nat) (l1 : List (S41)) (r : Bool) (w : World) (hr0 : Kd.C k41 w A0 l0.length l0) (hc0 : l0.length ≤ c0) (hr1 : Kd.C k41 w A1 l1.length l1) (hc1 : l1.length ≤ c1) (h : apogeeref10_Same.f k l0 l1 = some r) :
  Calls Try.prog 36 #[.slice A0 l0.length c0, .slice A1 l1.length c1] w fun e w' => e = .returned (.bool r) ∧ Drawn0 w w' := by
 have hu41 := Try.underlying41
 have HR0 := bA hr0
 have HC0 := bA hc0
 clear hr0 hc0
 have HR1 := bA hr1
 have HC1 := bA hc1
 clear hr1 hc1
 have H : (if (l0.length : Int) = (l1.length : Int) then (apogeeref10_Same.l0 k l0 l1 0) else (some false)) = some r := h
 clear h
 by_cases c3 : (l0.length : Int) = (l1.length : Int)
 rotate_left
 ·rw [if_neg c3] at H
  have c3b0 : ((l0.length : Int) == (l1.length : Int)) = false := beq_eq_false_iff_ne.mpr c3
  have c3b1 : ((l0.length : Int) != (l1.length : Int)) = true := bne_iff_ne.mpr c3
  have c3b2 : (l0.length == l1.length) = false := by first | simpa using c3 | (simp at c3 ⊢; omega)
  obtain rfl := Option.some.inj H
  go_enter Try.func36, Try.ntmps36
  go_wp2
  repeat (go_quiet (fail); try go_wp2)
  go_ret
  exact bD
 rw [if_pos c3] at H
 have c3b0 : ((l0.length : Int) == (l1.length : Int)) = true := beq_iff_eq.mpr c3
 have c3b1 : ((l0.length : Int) != (l1.length : Int)) = false := bne_eq_false_iff_eq.mpr c3
 have c3b2 : (l0.length == l1.length) = true := by first | simpa using c3 | (simp at c3 ⊢; omega)
 clear c3
 have H' := bA H
 clear H
 go_enter Try.func36, Try.ntmps36
 go_wp2
 repeat (go_quiet (fail); try go_wp2)
 go_loopg [5] k (fun kq v5 w' => ∃ (x5_1 : Int), v5 = .int .i64 x5_1 ∧ Aside0 (apogeeref10_Same.l0 kq l0 l1 x5_1 = some r) ∧ Aside0 (kq ≤ k) ∧ Drawn0 w w')
 case atStart => exact ⟨(0), bs, H', ⟨Nat.le_refl _⟩, by repeat (first | exact Drawn0.refl _ | apply Drawn0.step)⟩
 clear H'
 try clear c1
 try clear p2
 try clear c3
 try clear c3b0
 try clear c3b1
 try clear c3b2
 obtain ⟨x5_1, rfl, HA, HK1, ⟨m1, rfl⟩⟩ := hrel
 cases gk with
 | zero => exact absurd HA.out (by simp [apogeeref10_Same.l0])
 | succ k1 =>
  have H := HA.out
  clear HA
  simp only [apogeeref10_Same.l0] at H
  by_cases c4 : x5_1 < (l0.length : Int)
  rotate_left
  ·rw [if_neg c4] at H
   have c4b0 : decide (x5_1 < (l0.length : Int)) = false := decide_eq_false c4
   clear c4
   obtain rfl := Option.some.inj H
   go_wp2
   repeat (go_quiet (fail); try go_wp2)
   go_ret
   exact bD
  rw [if_pos c4] at H
  have c4b0 : decide (x5_1 < (l0.length : Int)) = true := decide_eq_true c4
  clear c4
  by_cases c5 : 0 ≤ x5_1
  rotate_left
  ·rw [if_neg c5] at H
   exact absurd H (by simp)
  rw [if_pos c5] at H
  have c5b0 : decide (0 ≤ x5_1) = true := decide_eq_true c5
  clear c5
  by_cases c6 : x5_1 < (l1.length : Int)
  rotate_left
  ·rw [if_neg c6] at H
   exact absurd H (by simp)
  rw [if_pos c6] at H
  have c6b0 : decide (x5_1 < (l1.length : Int)) = true := decide_eq_true c6
  clear c6
  by_cases c7 : (!(((rd_T41 l0 x5_1).f0) == ((rd_T41 l1 x5_1).f0)) || (!(((rd_T41 l0 x5_1).f1) == ((rd_T41 l1 x5_1).f1)))) = true
  ·rw [if_pos c7] at H
   have c7b0 : (!(((rd_T41 l0 x5_1).f0) == ((rd_T41 l1 x5_1).f0)) || (!(((rd_T41 l0 x5_1).f1) == ((rd_T41 l1 x5_1).f1)))) = true := c7
   clear c7
   obtain rfl := Option.some.inj H
   have p507 : 0 ≤ (x5_1 : Int) := bo
   have q507 : x5_1 < (l0.length : Int) := bo
   obtain ⟨ad507, e507, hx507_0, hx507_1⟩ := at_T41 HR0.out x5_1 p507 q507
   cases e507
   replace p507 := eq_true p507
   replace q507 := eq_true q507
   have p508 : 0 ≤ (x5_1 : Int) := bo
   have q508 : x5_1 < (l1.length : Int) := bo
   obtain ⟨ad508, e508, hx508_0, hx508_1⟩ := at_T41 HR1.out x5_1 p508 q508
   cases e508
   replace p508 := eq_true p508
   replace q508 := eq_true q508
   go_wp2
   repeat (go_quiet (fail); try go_wp2)
   go_ret
   exact bD
  rw [if_neg c7] at H
  have c7b0 : (!(((rd_T41 l0 x5_1).f0) == ((rd_T41 l1 x5_1).f0)) || (!(((rd_T41 l0 x5_1).f1) == ((rd_T41 l1 x5_1).f1)))) = false := by simpa using c7
  clear c7
  have H' := bA H
  clear H
  have p507 : 0 ≤ (x5_1 : Int) := bo
  have q507 : x5_1 < (l0.length : Int) := bo
  obtain ⟨ad507, e507, hx507_0, hx507_1⟩ := at_T41 HR0.out x5_1 p507 q507
  cases e507
  replace p507 := eq_true p507
  replace q507 := eq_true q507
  have p508 : 0 ≤ (x5_1 : Int) := bo
  have q508 : x5_1 < (l1.length : Int) := bo
  obtain ⟨ad508, e508, hx508_0, hx508_1⟩ := at_T41 HR1.out x5_1 p508 q508
  cases e508
  replace p508 := eq_true p508
  replace q508 := eq_true q508
  go_wp2
  repeat (go_quiet (fail); try go_wp2)
  go_roundg k1
  case measure => have := HK1.out; omega
  case rel => exact ⟨(wrap64 (x5_1 + 1)), bs, H', ⟨by have := HK1.out; omega⟩, by repeat (first | exact Drawn0.refl _ | apply Drawn0.step)⟩
end Go.Proofs.Ytjmibjmlihmglaa.G
