-- Written by a program of this session out of the translation; Lean checks it.
import Derived.Test.YtjmibjmlihmglaaGx0
namespace Go.Proofs.Ytjmibjmlihmglaa.G
open Go.RowKit Go.Proofs.YtjmibjmlihmglaaW.PrintWords Go.Proofs.YtjmibjmlihmglaaW.PrintLast Go.Proofs.YtjmibjmlihmglaaW.PrintMore
attribute [local go_sem] max2_int min2_int max_two min_two max_three min_three max_four min_four   -- for this text's walks alone
set_option linter.unusedVariables false
set_option linter.unusedSimpArgs false

/-! ### apogeeref11_Bounds: function 39 -/
def apogeeref11_Bounds.l0 : Nat → List (S41) → Int → Int → Int → Int → Int → Option (Int × Int × Int × Int)
 | 0, _, _, _, _, _, _ => none
 | k + 1, x0, x4, x513000, x513001, x513002, x513003 => if x4 < (x0.length : Int) then (if 0 ≤ x4 then (apogeeref11_Bounds.l0 k x0 (wrap64 (x4 + 1)) (mn x513000 ((rd_T41 x0 x4).f0)) (mn x513001 ((rd_T41 x0 x4).f1)) (mx x513002 ((rd_T41 x0 x4).f0)) (mx x513003 ((rd_T41 x0 x4).f1))) else (none)) else (some (x513000, x513001, x513002, x513003))
def apogeeref11_Bounds.f (k : Nat) (l0 : List (S41)) : Option (Int × Int × Int × Int) := if 0 < (l0.length : Int) then (apogeeref11_Bounds.l0 k l0 0 ((rd_T41 l0 0).f0) ((rd_T41 l0 0).f1) ((rd_T41 l0 0).f0) ((rd_T41 l0 0).f1)) else (none)
theorem apogeeref11_Bounds.mono_l : ∀ k, (∀ y0 y1 y2 y3 y4 y5, LeO (apogeeref11_Bounds.l0 k y0 y1 y2 y3 y4 y5) (apogeeref11_Bounds.l0 (k + 1) y0 y1 y2 y3 y4 y5))
 | 0 => fun _ _ _ _ _ _ r h => by simp [apogeeref11_Bounds.l0] at h
 | k + 1 => by
  have ih0 := apogeeref11_Bounds.mono_l k
  ·intro y0 y1 y2 y3 y4 y5
   unfold apogeeref11_Bounds.l0
   repeat' first
   | (with_reducible exact ih0 _ _ _ _ _ _)
   | (with_reducible exact LeO.refl _)
   | (with_reducible exact LeO.none _)
   | (with_reducible refine LeO.ite ?_ ?_)
   | (with_reducible refine LeO.bind ?_ (fun _ => ?_))
   | exact ih0 _ _ _ _ _ _
   | exact LeO.none _
   | refine LeO.ite ?_ ?_
   | refine LeO.bind ?_ (fun _ => ?_)
theorem apogeeref11_Bounds.mono : ∀ a0 k, LeO (apogeeref11_Bounds.f k a0) (apogeeref11_Bounds.f (k + 1) a0) := by
 intro a0 k
 have ih0 := apogeeref11_Bounds.mono_l k
 unfold apogeeref11_Bounds.f
 repeat' first
   | (with_reducible exact ih0 _ _ _ _ _ _)
   | (with_reducible exact LeO.refl _)
   | (with_reducible exact LeO.none _)
   | (with_reducible refine LeO.ite ?_ ?_)
   | (with_reducible refine LeO.bind ?_ (fun _ => ?_))
   | exact ih0 _ _ _ _ _ _
   | exact LeO.none _
   | refine LeO.ite ?_ ?_
   | refine LeO.bind ?_ (fun _ => ?_)
def apogeeref11_Bounds.T1 : Bool × List (List Nat × List Nat) := (true, [([], []), ([0], [0]), ([1], [1]), ([], []), ([3], [3]), ([4], [4]), ([2, 5], [2, 5]), ([], []), ([7, 6, 0, 1, 2, 3, 4, 5, 6, 7], [6, 7])])
def apogeeref11_Bounds.B1 : List Nat := [0, 1, 3, 0, 8, 24, 63, 0, 255]
theorem apogeeref11_Bounds.tab1 : rtab .any (opsOf Try.f39 1) = apogeeref11_Bounds.T1 := by kernel_rfl
theorem apogeeref11_Bounds.bits1 : waitsOk apogeeref11_Bounds.T1.2 apogeeref11_Bounds.B1 = true := by kernel_rfl
def apogeeref11_Bounds.T5 : Bool × List (List Nat × List Nat) := (true, [([], []), ([0], [0]), ([1], [1]), ([], []), ([], []), ([3, 4], [3, 4]), ([5], [5]), ([6], [6]), ([2, 7], [2, 7]), ([0, 1, 2, 3, 4, 5, 6, 7, 8], []), ([9, 0, 1, 2, 3, 4, 5, 6, 7, 8], [9]), ([10, 8, 0, 1, 2, 3, 4, 5, 6, 7, 8], [8, 10])])
def apogeeref11_Bounds.B5 : List Nat := [0, 1, 3, 0, 0, 24, 56, 120, 255, 511, 1023, 2047]
theorem apogeeref11_Bounds.tab5 : rtab .any (opsOf Try.f39 5) = apogeeref11_Bounds.T5 := by kernel_rfl
theorem apogeeref11_Bounds.bits5 : waitsOk apogeeref11_Bounds.T5.2 apogeeref11_Bounds.B5 = true := by kernel_rfl
def apogeeref11_Bounds.T6 : Bool × List (List Nat × List Nat) := (true, [([], []), ([0], [0]), ([1], [1]), ([], []), ([], []), ([3, 4], [3, 4]), ([5], [5]), ([6], [6]), ([2, 7], [2, 7]), ([0, 1, 2, 3, 4, 5, 6, 7, 8], []), ([9, 0, 1, 2, 3, 4, 5, 6, 7, 8], [9]), ([10, 8, 0, 1, 2, 3, 4, 5, 6, 7, 8], [8, 10])])
def apogeeref11_Bounds.B6 : List Nat := [0, 1, 3, 0, 0, 24, 56, 120, 255, 511, 1023, 2047]
theorem apogeeref11_Bounds.tab6 : rtab .any (opsOf Try.f39 6) = apogeeref11_Bounds.T6 := by kernel_rfl
theorem apogeeref11_Bounds.bits6 : waitsOk apogeeref11_Bounds.T6.2 apogeeref11_Bounds.B6 = true := by kernel_rfl
def apogeeref11_Bounds.T7 : Bool × List (List Nat × List Nat) := (true, [([], []), ([0], [0]), ([1], [1]), ([], []), ([], []), ([3, 4], [3, 4]), ([5], [5]), ([6], [6]), ([2, 7], [2, 7]), ([0, 1, 2, 3, 4, 5, 6, 7, 8], []), ([9, 0, 1, 2, 3, 4, 5, 6, 7, 8], [9]), ([10, 8, 0, 1, 2, 3, 4, 5, 6, 7, 8], [8, 10])])
def apogeeref11_Bounds.B7 : List Nat := [0, 1, 3, 0, 0, 24, 56, 120, 255, 511, 1023, 2047]
theorem apogeeref11_Bounds.tab7 : rtab .any (opsOf Try.f39 7) = apogeeref11_Bounds.T7 := by kernel_rfl
theorem apogeeref11_Bounds.bits7 : waitsOk apogeeref11_Bounds.T7.2 apogeeref11_Bounds.B7 = true := by kernel_rfl
def apogeeref11_Bounds.T8 : Bool × List (List Nat × List Nat) := (true, [([], []), ([0], [0]), ([1], [1]), ([], []), ([], []), ([3, 4], [3, 4]), ([5], [5]), ([6], [6]), ([2, 7], [2, 7]), ([0, 1, 2, 3, 4, 5, 6, 7, 8], []), ([9, 0, 1, 2, 3, 4, 5, 6, 7, 8], [9]), ([10, 8, 0, 1, 2, 3, 4, 5, 6, 7, 8], [8, 10])])
def apogeeref11_Bounds.B8 : List Nat := [0, 1, 3, 0, 0, 24, 56, 120, 255, 511, 1023, 2047]
theorem apogeeref11_Bounds.tab8 : rtab .any (opsOf Try.f39 8) = apogeeref11_Bounds.T8 := by kernel_rfl
theorem apogeeref11_Bounds.bits8 : waitsOk apogeeref11_Bounds.T8.2 apogeeref11_Bounds.B8 = true := by kernel_rfl
set_option maxHeartbeats 8000000 in
set_option maxRecDepth 100000 in
theorem apogeeref11_Bounds.calls (k : Nat) (A0 : Option Addr) (c0 : Nat) (l0 : List (S41)) (r1 : Int) (r2 : Int) (r3 : Int) (r4 : Int) (w : World) (hr0 : Kd.C k41 w A0 l0.length l0) (hc0 : l0.length ≤ c0) (h : apogeeref11_Bounds.f k l0 = some (r1, r2, r3, r4)) :
  Calls Try.prog 39 #[.slice A0 l0.length c0] w fun e w' => e = .returned (.agg #[.int .i64 r1, .int .i64 r2, .int .i64 r3, .int .i64 r4]) ∧ Below w.heap.size w w' := by
 have hu44 := Try.underlying44
 have hu41 := Try.underlying41
 have HR0 := bA hr0
 have HC0 := bA hc0
 clear hr0 hc0
 have HB := bA (Below.refl w.heap.size w)
 have H : (if 0 < (l0.length : Int) then (apogeeref11_Bounds.l0 k l0 0 ((rd_T41 l0 0).f0) ((rd_T41 l0 0).f1) ((rd_T41 l0 0).f0) ((rd_T41 l0 0).f1)) else (none)) = some (r1, r2, r3, r4) := h
 clear h
 by_cases c2 : 0 < (l0.length : Int)
 rotate_left
 ·rw [if_neg c2] at H
  exact absurd H (by simp)
 rw [if_pos c2] at H
 have c2b0 : decide (0 < (l0.length : Int)) = true := decide_eq_true c2
 have c2b1 : decide (0 < l0.length) = true := decide_eq_true (by omega)
 clear c2
 have H' := bA H
 clear H
 go_enter Try.func39, Try.ntmps39
 try go_wp2_with (first | ((with_reducible refine gate_dst (N := 2) rfl ?_); refine bE (N := 2) (cs := #[.int .i64 0, .int .i64 0, .int .i64 0, .int .i64 0]) (t := 44) ?_; intro gb509 hg w3 hbox hb; have BK509 := bA (hbox); have GW509 := bA (bZ hg); have GE509 := bA (bZ hg); replace HB := bA (bS hb); clear hb hbox hg))
 replace BK509 := bA (blk_drew BK509.out)
 replace HB := bA (below_drew1 HB.out)
 have p510 : 0 ≤ (0 : Int) := (by omega)
 have q510 : 0 < (l0.length : Int) := bo
 obtain ⟨ad510, e510, hx510_0, hx510_1⟩ := at_T41 HR0.out 0 p510 q510
 have hw510_1 := hx510_1
 (try rw [show ((0 : Int)).toNat = 0 from rfl] at hw510_1)
 (try rw [show 0 * 2 = 0 from rfl] at hw510_1)
 (try rw [Addr.add_zero'] at hw510_1)
 have hw510_0 := hx510_0
 (try rw [show ((0 : Int)).toNat = 0 from rfl] at hw510_0)
 (try rw [show 0 * 2 = 0 from rfl] at hw510_0)
 (try rw [Addr.add_zero'] at hw510_0)
 cases e510
 have qi510 : (0 < l0.length) = True := eq_true (by omega)
 (try rw [show ((0 : Int)).toNat = 0 from rfl] at hx510_0)
 (try rw [show 0 * 2 = 0 from rfl] at hx510_0)
 (try rw [Addr.add_zero'] at hx510_0)
 (try rw [show ((0 : Int)).toNat = 0 from rfl] at hx510_1)
 (try rw [show 0 * 2 = 0 from rfl] at hx510_1)
 (try rw [Addr.add_zero'] at hx510_1)
 replace hx510_0 := bK hx510_0
 replace hx510_1 := bK hx510_1
 replace p510 := eq_true p510
 replace q510 := eq_true q510
 have p511 : 0 ≤ (0 : Int) := (by omega)
 have q511 : 0 < (l0.length : Int) := bo
 obtain ⟨ad511, e511, hx511_0, hx511_1⟩ := at_T41 HR0.out 0 p511 q511
 have hw511_1 := hx511_1
 (try rw [show ((0 : Int)).toNat = 0 from rfl] at hw511_1)
 (try rw [show 0 * 2 = 0 from rfl] at hw511_1)
 (try rw [Addr.add_zero'] at hw511_1)
 have hw511_0 := hx511_0
 (try rw [show ((0 : Int)).toNat = 0 from rfl] at hw511_0)
 (try rw [show 0 * 2 = 0 from rfl] at hw511_0)
 (try rw [Addr.add_zero'] at hw511_0)
 obtain rfl : ad510 = ad511 := (by injection e511)
 have qi511 : (0 < l0.length) = True := eq_true (by omega)
 (try rw [show ((0 : Int)).toNat = 0 from rfl] at hx511_0)
 (try rw [show 0 * 2 = 0 from rfl] at hx511_0)
 (try rw [Addr.add_zero'] at hx511_0)
 (try rw [show ((0 : Int)).toNat = 0 from rfl] at hx511_1)
 (try rw [show 0 * 2 = 0 from rfl] at hx511_1)
 (try rw [Addr.add_zero'] at hx511_1)
 replace hx511_0 := bK hx511_0
 replace hx511_1 := bK hx511_1
 replace p511 := eq_true p511
 replace q511 := eq_true q511
 refine start_ (n := 9) (S := fun w' => w'.cell? ad510 = some (.int .i64 ((rd_T41 l0 0).f0)) ∧ w'.cell? ⟨ad510.block, ad510.off + 1, none⟩ = some (.int .i64 ((rd_T41 l0 0).f1)) ∧ w'.cell? ad510 = some (.int .i64 ((rd_T41 l0 0).f0)) ∧ w'.cell? ⟨ad510.block, ad510.off + 1, none⟩ = some (.int .i64 ((rd_T41 l0 0).f1))) (ds := []) #[false,false,false,false,false,false,false,false,false] (by kernel_rfl) rfl rfl ⟨(bK hw510_0), (bK hw510_1), (bK hw511_0), (bK hw511_1)⟩ (fun hHeld => ?_); refine with_tabW apogeeref11_Bounds.tab1 apogeeref11_Bounds.bits1 (fun HT_ HW_ => ?_)
 generalize w3.drew = w4 at BK509 HB hx510_0 hx510_1 hx511_0 hx511_1 hHeld ⊢
 refine bU (i := 0) (N := some 5) ?_
 refine bU (i := 1) (N := some 6) ?_
 refine bU (i := 3) (N := some 8) ?_
 refine bU (i := 4) (N := some 9) ?_
 refine bW (i := 2) (N := some 7) hHeld ?_
 refine bW (i := 5) (N := some 10) hHeld ?_
 refine bU (i := 6) (N := some 11) ?_
 refine one_ (i := 7) (N := some 3) #[true,true,true,true,true,true,true,true,false] rfl rfl (one_of HT_.out (by kernel_rfl)) (by decide) (fun K hK => ?_)
 refine bT (N := 3) (cs := #[.int .i64 0, .int .i64 0, .int .i64 0, .int .i64 0]) (t := 44) ?_
 intro gb512 hg w5 hbox hb
 have BK512 := bA (hbox)
 have GW512 := bA (bZ hg)
 have GE512 := bA (bZ hg)
 have NB509_512 := bA (bL BK509 hg)
 have NB512_509 := bA (bG BK509 hg)
 replace BK509 := bA (bB BK509 hb)
 replace HB := bA (bS hb)
 clear hb hbox hg
 refine hK.out _ _ ⟨(bK hw510_0), (bK hw510_1), (bK hw511_0), (bK hw511_1)⟩ (fun hHeld => ?_)
 clear hK K
 refine bH ?_
 refine one_ (i := 8) (N := none) #[true,true,true,true,true,true,true,true,true] rfl rfl (one_of HT_.out (by kernel_rfl)) (by decide) (fun K hK => ?_)
 have hs6 : w5.cell? ⟨gb512, 0, none⟩ = some (.int .i64 0) := bq BK512 0
 have hfs6 := blk_frozen BK512.out 0
 have hns6_0 := NB509_512.out
 have hms6_0 := NB512_509.out
 have hs7 : w5.cell? ⟨gb512, 1, none⟩ = some (.int .i64 0) := bq BK512 1
 have hfs7 := blk_frozen BK512.out 1
 have hns7_0 := NB509_512.out
 have hms7_0 := NB512_509.out
 have hs8 : w5.cell? ⟨gb512, 2, none⟩ = some (.int .i64 0) := bq BK512 2
 have hfs8 := blk_frozen BK512.out 2
 have hns8_0 := NB509_512.out
 have hms8_0 := NB512_509.out
 have hs9 : w5.cell? ⟨gb512, 3, none⟩ = some (.int .i64 0) := bq BK512 3
 have hfs9 := blk_frozen BK512.out 3
 have hns9_0 := NB509_512.out
 have hms9_0 := NB512_509.out
 refine skip_ (w1 := ?_) (by rfl) rfl ?_ ?_
 rotate_left
 ·go_simp
  rfl
 refine hK.out _ _ ⟨((bV hw510_0 GW512).trans (((bV hw510_0 GW512).trans (((bV hw510_0 GW512).trans (((bV hw510_0 GW512).trans (hHeld.1)))))))), ((bV hw510_1 GW512).trans (((bV hw510_1 GW512).trans (((bV hw510_1 GW512).trans (((bV hw510_1 GW512).trans (hHeld.2.1)))))))), ((bV hw511_0 GW512).trans (((bV hw511_0 GW512).trans (((bV hw511_0 GW512).trans (((bV hw511_0 GW512).trans (hHeld.2.2.1)))))))), ((bV hw511_1 GW512).trans (((bV hw511_1 GW512).trans (((bV hw511_1 GW512).trans (((bV hw511_1 GW512).trans (hHeld.2.2.2))))))))⟩ (fun hHeld => ?_)
 clear hK K
 refine done_ (done_of HT_.out (by kernel_rfl)) ?_
 try go_wp2
 go_loopg [4] k (fun kq v4 w' => ∃ (x4_1 : Int) (x513000_1 : Int) (x513001_1 : Int) (x513002_1 : Int) (x513003_1 : Int), v4 = .int .i64 x4_1 ∧ Aside0 (apogeeref11_Bounds.l0 kq l0 x4_1 x513000_1 x513001_1 x513002_1 x513003_1 = some (r1, r2, r3, r4)) ∧ Aside0 (kq ≤ k) ∧ Aside0 (w'.heap[gb509]? = some (.cells #[.int .i64 0, .int .i64 0, .int .i64 0, .int .i64 0] 44 (0, 0))) ∧ Aside0 (w'.heap[gb512]? = some (.cells #[.int .i64 x513000_1, .int .i64 x513001_1, .int .i64 x513002_1, .int .i64 x513003_1] 44 (0, 0))) ∧ Aside0 (Below w.heap.size w w'))
 case atStart => exact ⟨(0), ((rd_T41 l0 0).f0), ((rd_T41 l0 0).f1), ((rd_T41 l0 0).f0), ((rd_T41 l0 0).f1), bs, H', ⟨Nat.le_refl _⟩, ⟨by (repeat ((with_reducible repeat (first | refine blk_drewN ?_ _ | refine blk_drew ?_ | refine blk_alloc ?_ _)); refine blk_far ?_ NB509_512.out _)); (with_reducible repeat (first | refine blk_drewN ?_ _ | refine blk_drew ?_ | refine blk_alloc ?_ _)); exact BK509.out⟩, ⟨by (with_reducible repeat (first | refine blk_drewN ?_ _ | refine blk_drew ?_ | refine blk_alloc ?_ _)); refine blk_put (cs := #[.int .i64 ((rd_T41 l0 0).f0), .int .i64 ((rd_T41 l0 0).f1), .int .i64 ((rd_T41 l0 0).f0), .int .i64 0]) ?_ 3 _ rfl; (with_reducible repeat (first | refine blk_drewN ?_ _ | refine blk_drew ?_ | refine blk_alloc ?_ _)); refine blk_put (cs := #[.int .i64 ((rd_T41 l0 0).f0), .int .i64 ((rd_T41 l0 0).f1), .int .i64 0, .int .i64 0]) ?_ 2 _ rfl; (with_reducible repeat (first | refine blk_drewN ?_ _ | refine blk_drew ?_ | refine blk_alloc ?_ _)); refine blk_put (cs := #[.int .i64 ((rd_T41 l0 0).f0), .int .i64 0, .int .i64 0, .int .i64 0]) ?_ 1 _ rfl; (with_reducible repeat (first | refine blk_drewN ?_ _ | refine blk_drew ?_ | refine blk_alloc ?_ _)); refine blk_put (cs := #[.int .i64 0, .int .i64 0, .int .i64 0, .int .i64 0]) ?_ 0 _ rfl; (with_reducible repeat (first | refine blk_drewN ?_ _ | refine blk_drew ?_ | refine blk_alloc ?_ _)); exact BK512.out⟩, ⟨bX⟩⟩
 clear H'
 try clear c2
 try clear c2b0
 try clear c2b1
 try clear p2
 try clear c3
 try clear p5
 try clear q5
 try clear hx5
 try clear qi5
 try clear hx510_0
 try clear hx510_1
 try clear hx511_0
 try clear hx511_1
 try clear p510
 try clear p511
 try clear q510
 try clear q511
 obtain ⟨x4_1, x513000_1, x513001_1, x513002_1, x513003_1, rfl, HA, HK1, BK509, BK512, HB⟩ := hrel
 cases gk with
 | zero => exact absurd HA.out (by simp [apogeeref11_Bounds.l0])
 | succ k1 =>
  have H := HA.out
  clear HA
  simp only [apogeeref11_Bounds.l0] at H
  by_cases c10 : x4_1 < (l0.length : Int)
  rotate_left
  ·rw [if_neg c10] at H
   have c10b0 : decide (x4_1 < (l0.length : Int)) = false := decide_eq_false c10
   clear c10
   simp only [Option.some.injEq, Prod.mk.injEq] at H
   obtain ⟨rfl, rfl, rfl, rfl⟩ := H
   have hnb27 := NB512_509.out
   have hnc27 := NB509_512.out
   obtain ⟨hcz28_0, hcz28_1, hcz28_2, hcz28_3, hfz28_0, hfz28_1, hfz28_2, hfz28_3⟩ := bc4 BK512
   obtain ⟨hcz29_0, hcz29_1, hcz29_2, hcz29_3, hfz29_0, hfz29_1, hfz29_2, hfz29_3⟩ := bc4 BK509
   go_wp2
   refine bodyPost_ret (results_cell_row rfl _ _ gb509 44 #[.int .i64 x513000_1, .int .i64 x513001_1, .int .i64 x513002_1, .int .i64 x513003_1] (0, 0) _ rfl (by (with_reducible repeat (first | refine blk_drewN ?_ _ | refine blk_drew ?_ | refine blk_alloc ?_ _)); refine blk_put (cs := #[.int .i64 x513000_1, .int .i64 x513001_1, .int .i64 x513002_1, .int .i64 0]) ?_ 3 _ rfl; (with_reducible repeat (first | refine blk_drewN ?_ _ | refine blk_drew ?_ | refine blk_alloc ?_ _)); refine blk_put (cs := #[.int .i64 x513000_1, .int .i64 x513001_1, .int .i64 0, .int .i64 0]) ?_ 2 _ rfl; (with_reducible repeat (first | refine blk_drewN ?_ _ | refine blk_drew ?_ | refine blk_alloc ?_ _)); refine blk_put (cs := #[.int .i64 x513000_1, .int .i64 0, .int .i64 0, .int .i64 0]) ?_ 1 _ rfl; (with_reducible repeat (first | refine blk_drewN ?_ _ | refine blk_drew ?_ | refine blk_alloc ?_ _)); refine blk_put (cs := #[.int .i64 0, .int .i64 0, .int .i64 0, .int .i64 0]) ?_ 0 _ rfl; (with_reducible repeat (first | refine blk_drewN ?_ _ | refine blk_drew ?_ | refine blk_alloc ?_ _)); exact BK509.out) Try.underlying44 rfl (by kernel_rfl)) rfl ?_
   exact bF
  rw [if_pos c10] at H
  have c10b0 : decide (x4_1 < (l0.length : Int)) = true := decide_eq_true c10
  clear c10
  by_cases c11 : 0 ≤ x4_1
  rotate_left
  ·rw [if_neg c11] at H
   exact absurd H (by simp)
  rw [if_pos c11] at H
  have c11b0 : decide (0 ≤ x4_1) = true := decide_eq_true c11
  clear c11
  obtain ⟨ji12, hji12⟩ : ∃ j_ : Int, (mn x513000_1 ((rd_T41 l0 x4_1).f0)) = j_ := ⟨_, rfl⟩
  replace H : (apogeeref11_Bounds.l0 k1 l0 (wrap64 (x4_1 + 1)) ji12 (mn x513001_1 ((rd_T41 l0 x4_1).f1)) (mx x513002_1 ((rd_T41 l0 x4_1).f0)) (mx x513003_1 ((rd_T41 l0 x4_1).f1))) = some (r1, r2, r3, r4) := by first | (rw [hji12] at H; exact H) | (simp only [hji12] at H ⊢; exact H)
  have hji12_ : (if ((rd_T41 l0 x4_1).f0) < x513000_1 then ((rd_T41 l0 x4_1).f0) else x513000_1) = ji12 := hji12
  obtain ⟨ji13, hji13⟩ : ∃ j_ : Int, (mn x513001_1 ((rd_T41 l0 x4_1).f1)) = j_ := ⟨_, rfl⟩
  replace H : (apogeeref11_Bounds.l0 k1 l0 (wrap64 (x4_1 + 1)) ji12 ji13 (mx x513002_1 ((rd_T41 l0 x4_1).f0)) (mx x513003_1 ((rd_T41 l0 x4_1).f1))) = some (r1, r2, r3, r4) := by first | (rw [hji13] at H; exact H) | (simp only [hji13] at H ⊢; exact H)
  have hji13_ : (if ((rd_T41 l0 x4_1).f1) < x513001_1 then ((rd_T41 l0 x4_1).f1) else x513001_1) = ji13 := hji13
  obtain ⟨ji14, hji14⟩ : ∃ j_ : Int, (mx x513002_1 ((rd_T41 l0 x4_1).f0)) = j_ := ⟨_, rfl⟩
  replace H : (apogeeref11_Bounds.l0 k1 l0 (wrap64 (x4_1 + 1)) ji12 ji13 ji14 (mx x513003_1 ((rd_T41 l0 x4_1).f1))) = some (r1, r2, r3, r4) := by first | (rw [hji14] at H; exact H) | (simp only [hji14] at H ⊢; exact H)
  have hji14_ : (if x513002_1 < ((rd_T41 l0 x4_1).f0) then ((rd_T41 l0 x4_1).f0) else x513002_1) = ji14 := hji14
  obtain ⟨ji15, hji15⟩ : ∃ j_ : Int, (mx x513003_1 ((rd_T41 l0 x4_1).f1)) = j_ := ⟨_, rfl⟩
  replace H : (apogeeref11_Bounds.l0 k1 l0 (wrap64 (x4_1 + 1)) ji12 ji13 ji14 ji15) = some (r1, r2, r3, r4) := by first | (rw [hji15] at H; exact H) | (simp only [hji15] at H ⊢; exact H)
  have hji15_ : (if x513003_1 < ((rd_T41 l0 x4_1).f1) then ((rd_T41 l0 x4_1).f1) else x513003_1) = ji15 := hji15
  have H' := bA H
  clear H
  try go_wp2
  replace BK509 := bA (blk_drew BK509.out)
  replace BK512 := bA (blk_drew BK512.out)
  replace HB := bA (below_drew1 HB.out)
  have p513 : 0 ≤ (x4_1 : Int) := bo
  have q513 : x4_1 < (l0.length : Int) := bo
  obtain ⟨ad513, e513, hx513_0, hx513_1⟩ := at_T41 HR0.out x4_1 p513 q513
  have hw513_1 := hx513_1
  have hw513_0 := hx513_0
  obtain rfl : ad510 = ad513 := (by injection e513)
  replace hx513_0 := bK hx513_0
  replace hx513_1 := bK hx513_1
  replace p513 := eq_true p513
  replace q513 := eq_true q513
  refine start_ (n := 12) (S := fun w' => w'.cell? ⟨gb512, 0, none⟩ = some (.int .i64 x513000_1) ∧ w'.cell? ⟨gb512, 1, none⟩ = some (.int .i64 x513001_1) ∧ w'.cell? ⟨gb512, 2, none⟩ = some (.int .i64 x513002_1) ∧ w'.cell? ⟨gb512, 3, none⟩ = some (.int .i64 x513003_1) ∧ w'.cell? (ad510.add ((x4_1).toNat * 2)) = some (.int .i64 ((rd_T41 l0 x4_1).f0)) ∧ w'.cell? ⟨(ad510.add ((x4_1).toNat * 2)).block, (ad510.add ((x4_1).toNat * 2)).off + 1, none⟩ = some (.int .i64 ((rd_T41 l0 x4_1).f1))) (ds := [11]) #[false,false,false,false,false,false,false,false,false,false,false,false] (by kernel_rfl) rfl rfl ⟨bq BK512 0, bq BK512 1, bq BK512 2, bq BK512 3, (bK hw513_0), (bK hw513_1)⟩ (fun hHeld => ?_); refine with_tabW apogeeref11_Bounds.tab5 apogeeref11_Bounds.bits5 (fun HT_ HW_ => ?_)
  generalize wr.drew = w16 at BK509 BK512 HB hx513_0 hx513_1 hHeld ⊢
  refine bU (i := 0) (N := some 18) ?_
  refine bU (i := 1) (N := some 19) ?_
  refine bU (i := 3) (N := some 21) ?_
  refine bU (i := 4) (N := some 22) ?_
  refine bU (i := 5) (N := some 23) ?_
  refine bU (i := 6) (N := some 24) ?_
  refine bW (i := 2) (N := some 20) hHeld ?_
  refine bW (i := 7) (N := some 25) hHeld ?_
  refine bU (i := 8) (N := some 26) ?_
  refine bU (i := 9) (N := some 27) ?_
  refine bU (i := 10) (N := some 28) ?_
  refine last_ (i := 11) (N := none) #[true,true,true,true,true,true,true,true,true,true,true,true] rfl rfl (one_of HT_.out (by kernel_rfl)) (by decide) (fun K hK => ?_)
  have hs17 : w16.cell? ⟨gb512, 0, none⟩ = some (.int .i64 x513000_1) := bq BK512 0
  have hfs17 := blk_frozen BK512.out 0
  have hns17_0 := NB509_512.out
  have hms17_0 := NB512_509.out
  refine skip_ (w1 := ?_) (by rfl) rfl ?_ ?_
  rotate_left
  ·go_simp
   rfl
  refine hK.out _ _ ?_
  clear hK K
  refine done_ (done_of HT_.out (by kernel_rfl)) ?_
  try go_wp2
  have n0_ : Aside0 ((w16.setCell ⟨gb512, 0, none⟩ (.int .i64 ji12)).heap[gb509]? = some (.cells #[.int .i64 0, .int .i64 0, .int .i64 0, .int .i64 0] 44 (0, 0))) := ⟨by (with_reducible repeat (first | refine blk_drewN ?_ _ | refine blk_drew ?_ | refine blk_alloc ?_ _)); refine blk_far ?_ NB509_512.out _; (with_reducible repeat (first | refine blk_drewN ?_ _ | refine blk_drew ?_ | refine blk_alloc ?_ _)); exact BK509.out⟩
  have n1_ : Aside0 ((w16.setCell ⟨gb512, 0, none⟩ (.int .i64 ji12)).heap[gb512]? = some (.cells #[.int .i64 ji12, .int .i64 x513001_1, .int .i64 x513002_1, .int .i64 x513003_1] 44 (0, 0))) := ⟨by (with_reducible repeat (first | refine blk_drewN ?_ _ | refine blk_drew ?_ | refine blk_alloc ?_ _)); refine blk_put (cs := #[.int .i64 x513000_1, .int .i64 x513001_1, .int .i64 x513002_1, .int .i64 x513003_1]) ?_ 0 _ rfl; (with_reducible repeat (first | refine blk_drewN ?_ _ | refine blk_drew ?_ | refine blk_alloc ?_ _)); exact BK512.out⟩
  have n2_ : Aside0 (Below w.heap.size w (w16.setCell ⟨gb512, 0, none⟩ (.int .i64 ji12))) := ⟨bX⟩
  (try clear BK509)
  (try clear BK512)
  (try clear HB)
  generalize (w16.setCell ⟨gb512, 0, none⟩ (.int .i64 ji12)) = w18 at n0_ n1_ n2_ ⊢
  have BK509 := n0_
  have BK512 := n1_
  have HB := n2_
  clear n0_ n1_ n2_
  replace BK509 := bA (blk_drew BK509.out)
  replace BK512 := bA (blk_drew BK512.out)
  replace HB := bA (below_drew1 HB.out)
  have p514 : 0 ≤ (x4_1 : Int) := bo
  have q514 : x4_1 < (l0.length : Int) := bo
  obtain ⟨ad514, e514, hx514_0, hx514_1⟩ := at_T41 HR0.out x4_1 p514 q514
  have hw514_1 := hx514_1
  have hw514_0 := hx514_0
  obtain rfl : ad510 = ad514 := (by injection e514)
  replace hx514_0 := bK hx514_0
  replace hx514_1 := bK hx514_1
  replace p514 := eq_true p514
  replace q514 := eq_true q514
  refine start_ (n := 12) (S := fun w' => w'.cell? ⟨gb512, 0, none⟩ = some (.int .i64 ji12) ∧ w'.cell? ⟨gb512, 1, none⟩ = some (.int .i64 x513001_1) ∧ w'.cell? ⟨gb512, 2, none⟩ = some (.int .i64 x513002_1) ∧ w'.cell? ⟨gb512, 3, none⟩ = some (.int .i64 x513003_1) ∧ w'.cell? (ad510.add ((x4_1).toNat * 2)) = some (.int .i64 ((rd_T41 l0 x4_1).f0)) ∧ w'.cell? ⟨(ad510.add ((x4_1).toNat * 2)).block, (ad510.add ((x4_1).toNat * 2)).off + 1, none⟩ = some (.int .i64 ((rd_T41 l0 x4_1).f1))) (ds := [11]) #[false,false,false,false,false,false,false,false,false,false,false,false] (by kernel_rfl) rfl rfl ⟨bq BK512 0, bq BK512 1, bq BK512 2, bq BK512 3, (bK hw514_0), (bK hw514_1)⟩ (fun hHeld => ?_); refine with_tabW apogeeref11_Bounds.tab6 apogeeref11_Bounds.bits6 (fun HT_ HW_ => ?_)
  generalize w18.drew = w19 at BK509 BK512 HB hx514_0 hx514_1 hHeld ⊢
  refine bU (i := 0) (N := some 29) ?_
  refine bU (i := 1) (N := some 30) ?_
  refine bU (i := 3) (N := some 32) ?_
  refine bU (i := 4) (N := some 33) ?_
  refine bU (i := 5) (N := some 34) ?_
  refine bU (i := 6) (N := some 35) ?_
  refine bW (i := 2) (N := some 31) hHeld ?_
  refine bW (i := 7) (N := some 36) hHeld ?_
  refine bU (i := 8) (N := some 37) ?_
  refine bU (i := 9) (N := some 38) ?_
  refine bU (i := 10) (N := some 39) ?_
  refine last_ (i := 11) (N := none) #[true,true,true,true,true,true,true,true,true,true,true,true] rfl rfl (one_of HT_.out (by kernel_rfl)) (by decide) (fun K hK => ?_)
  have hs20 : w19.cell? ⟨gb512, 1, none⟩ = some (.int .i64 x513001_1) := bq BK512 1
  have hfs20 := blk_frozen BK512.out 1
  have hns20_0 := NB509_512.out
  have hms20_0 := NB512_509.out
  refine skip_ (w1 := ?_) (by rfl) rfl ?_ ?_
  rotate_left
  ·go_simp
   rfl
  refine hK.out _ _ ?_
  clear hK K
  refine done_ (done_of HT_.out (by kernel_rfl)) ?_
  try go_wp2
  have n0_ : Aside0 ((w19.setCell ⟨gb512, 1, none⟩ (.int .i64 ji13)).heap[gb509]? = some (.cells #[.int .i64 0, .int .i64 0, .int .i64 0, .int .i64 0] 44 (0, 0))) := ⟨by (with_reducible repeat (first | refine blk_drewN ?_ _ | refine blk_drew ?_ | refine blk_alloc ?_ _)); refine blk_far ?_ NB509_512.out _; (with_reducible repeat (first | refine blk_drewN ?_ _ | refine blk_drew ?_ | refine blk_alloc ?_ _)); exact BK509.out⟩
  have n1_ : Aside0 ((w19.setCell ⟨gb512, 1, none⟩ (.int .i64 ji13)).heap[gb512]? = some (.cells #[.int .i64 ji12, .int .i64 ji13, .int .i64 x513002_1, .int .i64 x513003_1] 44 (0, 0))) := ⟨by (with_reducible repeat (first | refine blk_drewN ?_ _ | refine blk_drew ?_ | refine blk_alloc ?_ _)); refine blk_put (cs := #[.int .i64 ji12, .int .i64 x513001_1, .int .i64 x513002_1, .int .i64 x513003_1]) ?_ 1 _ rfl; (with_reducible repeat (first | refine blk_drewN ?_ _ | refine blk_drew ?_ | refine blk_alloc ?_ _)); exact BK512.out⟩
  have n2_ : Aside0 (Below w.heap.size w (w19.setCell ⟨gb512, 1, none⟩ (.int .i64 ji13))) := ⟨bX⟩
  (try clear BK509)
  (try clear BK512)
  (try clear HB)
  generalize (w19.setCell ⟨gb512, 1, none⟩ (.int .i64 ji13)) = w21 at n0_ n1_ n2_ ⊢
  have BK509 := n0_
  have BK512 := n1_
  have HB := n2_
  clear n0_ n1_ n2_
  replace BK509 := bA (blk_drew BK509.out)
  replace BK512 := bA (blk_drew BK512.out)
  replace HB := bA (below_drew1 HB.out)
  have p515 : 0 ≤ (x4_1 : Int) := bo
  have q515 : x4_1 < (l0.length : Int) := bo
  obtain ⟨ad515, e515, hx515_0, hx515_1⟩ := at_T41 HR0.out x4_1 p515 q515
  have hw515_1 := hx515_1
  have hw515_0 := hx515_0
  obtain rfl : ad510 = ad515 := (by injection e515)
  replace hx515_0 := bK hx515_0
  replace hx515_1 := bK hx515_1
  replace p515 := eq_true p515
  replace q515 := eq_true q515
  refine start_ (n := 12) (S := fun w' => w'.cell? ⟨gb512, 0, none⟩ = some (.int .i64 ji12) ∧ w'.cell? ⟨gb512, 1, none⟩ = some (.int .i64 ji13) ∧ w'.cell? ⟨gb512, 2, none⟩ = some (.int .i64 x513002_1) ∧ w'.cell? ⟨gb512, 3, none⟩ = some (.int .i64 x513003_1) ∧ w'.cell? (ad510.add ((x4_1).toNat * 2)) = some (.int .i64 ((rd_T41 l0 x4_1).f0)) ∧ w'.cell? ⟨(ad510.add ((x4_1).toNat * 2)).block, (ad510.add ((x4_1).toNat * 2)).off + 1, none⟩ = some (.int .i64 ((rd_T41 l0 x4_1).f1))) (ds := [11]) #[false,false,false,false,false,false,false,false,false,false,false,false] (by kernel_rfl) rfl rfl ⟨bq BK512 0, bq BK512 1, bq BK512 2, bq BK512 3, (bK hw515_0), (bK hw515_1)⟩ (fun hHeld => ?_); refine with_tabW apogeeref11_Bounds.tab7 apogeeref11_Bounds.bits7 (fun HT_ HW_ => ?_)
  generalize w21.drew = w22 at BK509 BK512 HB hx515_0 hx515_1 hHeld ⊢
  refine bU (i := 0) (N := some 40) ?_
  refine bU (i := 1) (N := some 41) ?_
  refine bU (i := 3) (N := some 43) ?_
  refine bU (i := 4) (N := some 44) ?_
  refine bU (i := 5) (N := some 45) ?_
  refine bU (i := 6) (N := some 46) ?_
  refine bW (i := 2) (N := some 42) hHeld ?_
  refine bW (i := 7) (N := some 47) hHeld ?_
  refine bU (i := 8) (N := some 48) ?_
  refine bU (i := 9) (N := some 49) ?_
  refine bU (i := 10) (N := some 50) ?_
  refine last_ (i := 11) (N := none) #[true,true,true,true,true,true,true,true,true,true,true,true] rfl rfl (one_of HT_.out (by kernel_rfl)) (by decide) (fun K hK => ?_)
  have hs23 : w22.cell? ⟨gb512, 2, none⟩ = some (.int .i64 x513002_1) := bq BK512 2
  have hfs23 := blk_frozen BK512.out 2
  have hns23_0 := NB509_512.out
  have hms23_0 := NB512_509.out
  refine skip_ (w1 := ?_) (by rfl) rfl ?_ ?_
  rotate_left
  ·go_simp
   rfl
  refine hK.out _ _ ?_
  clear hK K
  refine done_ (done_of HT_.out (by kernel_rfl)) ?_
  try go_wp2
  have n0_ : Aside0 ((w22.setCell ⟨gb512, 2, none⟩ (.int .i64 ji14)).heap[gb509]? = some (.cells #[.int .i64 0, .int .i64 0, .int .i64 0, .int .i64 0] 44 (0, 0))) := ⟨by (with_reducible repeat (first | refine blk_drewN ?_ _ | refine blk_drew ?_ | refine blk_alloc ?_ _)); refine blk_far ?_ NB509_512.out _; (with_reducible repeat (first | refine blk_drewN ?_ _ | refine blk_drew ?_ | refine blk_alloc ?_ _)); exact BK509.out⟩
  have n1_ : Aside0 ((w22.setCell ⟨gb512, 2, none⟩ (.int .i64 ji14)).heap[gb512]? = some (.cells #[.int .i64 ji12, .int .i64 ji13, .int .i64 ji14, .int .i64 x513003_1] 44 (0, 0))) := ⟨by (with_reducible repeat (first | refine blk_drewN ?_ _ | refine blk_drew ?_ | refine blk_alloc ?_ _)); refine blk_put (cs := #[.int .i64 ji12, .int .i64 ji13, .int .i64 x513002_1, .int .i64 x513003_1]) ?_ 2 _ rfl; (with_reducible repeat (first | refine blk_drewN ?_ _ | refine blk_drew ?_ | refine blk_alloc ?_ _)); exact BK512.out⟩
  have n2_ : Aside0 (Below w.heap.size w (w22.setCell ⟨gb512, 2, none⟩ (.int .i64 ji14))) := ⟨bX⟩
  (try clear BK509)
  (try clear BK512)
  (try clear HB)
  generalize (w22.setCell ⟨gb512, 2, none⟩ (.int .i64 ji14)) = w24 at n0_ n1_ n2_ ⊢
  have BK509 := n0_
  have BK512 := n1_
  have HB := n2_
  clear n0_ n1_ n2_
  replace BK509 := bA (blk_drew BK509.out)
  replace BK512 := bA (blk_drew BK512.out)
  replace HB := bA (below_drew1 HB.out)
  have p516 : 0 ≤ (x4_1 : Int) := bo
  have q516 : x4_1 < (l0.length : Int) := bo
  obtain ⟨ad516, e516, hx516_0, hx516_1⟩ := at_T41 HR0.out x4_1 p516 q516
  have hw516_1 := hx516_1
  have hw516_0 := hx516_0
  obtain rfl : ad510 = ad516 := (by injection e516)
  replace hx516_0 := bK hx516_0
  replace hx516_1 := bK hx516_1
  replace p516 := eq_true p516
  replace q516 := eq_true q516
  refine start_ (n := 12) (S := fun w' => w'.cell? ⟨gb512, 0, none⟩ = some (.int .i64 ji12) ∧ w'.cell? ⟨gb512, 1, none⟩ = some (.int .i64 ji13) ∧ w'.cell? ⟨gb512, 2, none⟩ = some (.int .i64 ji14) ∧ w'.cell? ⟨gb512, 3, none⟩ = some (.int .i64 x513003_1) ∧ w'.cell? (ad510.add ((x4_1).toNat * 2)) = some (.int .i64 ((rd_T41 l0 x4_1).f0)) ∧ w'.cell? ⟨(ad510.add ((x4_1).toNat * 2)).block, (ad510.add ((x4_1).toNat * 2)).off + 1, none⟩ = some (.int .i64 ((rd_T41 l0 x4_1).f1))) (ds := [11]) #[false,false,false,false,false,false,false,false,false,false,false,false] (by kernel_rfl) rfl rfl ⟨bq BK512 0, bq BK512 1, bq BK512 2, bq BK512 3, (bK hw516_0), (bK hw516_1)⟩ (fun hHeld => ?_); refine with_tabW apogeeref11_Bounds.tab8 apogeeref11_Bounds.bits8 (fun HT_ HW_ => ?_)
  generalize w24.drew = w25 at BK509 BK512 HB hx516_0 hx516_1 hHeld ⊢
  refine bU (i := 0) (N := some 51) ?_
  refine bU (i := 1) (N := some 52) ?_
  refine bU (i := 3) (N := some 54) ?_
  refine bU (i := 4) (N := some 55) ?_
  refine bU (i := 5) (N := some 56) ?_
  refine bU (i := 6) (N := some 57) ?_
  refine bW (i := 2) (N := some 53) hHeld ?_
  refine bW (i := 7) (N := some 58) hHeld ?_
  refine bU (i := 8) (N := some 59) ?_
  refine bU (i := 9) (N := some 60) ?_
  refine bU (i := 10) (N := some 61) ?_
  refine last_ (i := 11) (N := none) #[true,true,true,true,true,true,true,true,true,true,true,true] rfl rfl (one_of HT_.out (by kernel_rfl)) (by decide) (fun K hK => ?_)
  have hs26 : w25.cell? ⟨gb512, 3, none⟩ = some (.int .i64 x513003_1) := bq BK512 3
  have hfs26 := blk_frozen BK512.out 3
  have hns26_0 := NB509_512.out
  have hms26_0 := NB512_509.out
  refine skip_ (w1 := ?_) (by rfl) rfl ?_ ?_
  rotate_left
  ·go_simp
   rfl
  refine hK.out _ _ ?_
  clear hK K
  refine done_ (done_of HT_.out (by kernel_rfl)) ?_
  try go_wp2
  go_roundg k1
  case measure => have := HK1.out; omega
  case rel => exact ⟨(wrap64 (x4_1 + 1)), (ji12), (ji13), (ji14), (ji15), bs, H', ⟨by have := HK1.out; omega⟩, ⟨by (with_reducible repeat (first | refine blk_drewN ?_ _ | refine blk_drew ?_ | refine blk_alloc ?_ _)); refine blk_far ?_ NB509_512.out _; (with_reducible repeat (first | refine blk_drewN ?_ _ | refine blk_drew ?_ | refine blk_alloc ?_ _)); exact BK509.out⟩, ⟨by (with_reducible repeat (first | refine blk_drewN ?_ _ | refine blk_drew ?_ | refine blk_alloc ?_ _)); refine blk_put (cs := #[.int .i64 ji12, .int .i64 ji13, .int .i64 ji14, .int .i64 x513003_1]) ?_ 3 _ rfl; (with_reducible repeat (first | refine blk_drewN ?_ _ | refine blk_drew ?_ | refine blk_alloc ?_ _)); exact BK512.out⟩, ⟨bX⟩⟩
end Go.Proofs.Ytjmibjmlihmglaa.G
