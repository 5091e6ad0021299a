-- Written by a program of this session out of the translation; Lean checks it.
import Derived.Test.YtjmibjmlihmglaaGx0
import Derived.Test.YtjmibjmlihmglaaGx6
import Derived.Test.YtjmibjmlihmglaaGx11
import Derived.Test.YtjmibjmlihmglaaGx12
namespace Go.Proofs.Ytjmibjmlihmglaa.G
open Go.RowKit Go.Proofs.YtjmibjmlihmglaaW.PrintWords Go.Proofs.YtjmibjmlihmglaaW.PrintLast Go.Proofs.YtjmibjmlihmglaaW.PrintMore
attribute [local go_sem] max2_int min2_int max_two min_two max_three min_three max_four min_four   -- for this text's walks alone
set_option linter.unusedVariables false
set_option linter.unusedSimpArgs false

/-! ### poly_Left: function 34 -/
def poly_Left.l0 : Nat → List (S41) → Int → Int → Int → Int → Option (Bool)
 | 0, _, _, _, _, _ => none
 | k + 1, x0, x12, x13, x271000, x271001 => if x13 < x12 then ((poly_edge.f x0 x13).bind fun bt272 => ((wide_Mul.f bt272.1 bt272.2.2.2).bind fun bt278 => ((wide_Wide_Add.f x271000 x271001 bt278.1 bt278.2).bind fun bt280 => ((wide_Mul.f bt272.2.1 bt272.2.2.1).bind fun bt283 => ((wide_Wide_Sub.f bt280.1 bt280.2.1 bt283.1 bt283.2).bind fun bt285 => (poly_Left.l0 k x0 x12 (wrap64 (x13 + 1)) bt285.1 bt285.2.1)))))) else ((wide_Wide_Sign.f k x271000 x271001).bind fun t271 => (some (decide (t271 > 0))))
def poly_Left.f (k : Nat) (l0 : List (S41)) : Option (Bool) := (poly_Right.f k l0).bind fun t269 => (if t269 = true then (poly_Left.l0 k l0 (l0.length : Int) 0 0 0) else (some false))
theorem poly_Left.mono_l : ∀ k, (∀ y0 y1 y2 y3 y4, LeO (poly_Left.l0 k y0 y1 y2 y3 y4) (poly_Left.l0 (k + 1) y0 y1 y2 y3 y4))
 | 0 => fun _ _ _ _ _ r h => by simp [poly_Left.l0] at h
 | k + 1 => by
  have ih0 := poly_Left.mono_l k
  ·intro y0 y1 y2 y3 y4
   unfold poly_Left.l0
   repeat' first
   | (with_reducible exact ih0 _ _ _ _ _)
   | (with_reducible exact poly_Right.mono _ _)
   | (with_reducible exact wide_Wide_Sign.mono _ _ _)
   | (with_reducible exact LeO.refl _)
   | (with_reducible exact LeO.none _)
   | (with_reducible refine LeO.ite ?_ ?_)
   | (with_reducible refine LeO.bind ?_ (fun _ => ?_))
   | exact ih0 _ _ _ _ _
   | exact poly_Right.mono _ _
   | exact wide_Wide_Sign.mono _ _ _
   | exact LeO.none _
   | refine LeO.ite ?_ ?_
   | refine LeO.bind ?_ (fun _ => ?_)
theorem poly_Left.mono : ∀ a0 k, LeO (poly_Left.f k a0) (poly_Left.f (k + 1) a0) := by
 intro a0 k
 have ih0 := poly_Left.mono_l k
 unfold poly_Left.f
 repeat' first
   | (with_reducible exact ih0 _ _ _ _ _)
   | (with_reducible exact poly_Right.mono _ _)
   | (with_reducible exact wide_Wide_Sign.mono _ _ _)
   | (with_reducible exact LeO.refl _)
   | (with_reducible exact LeO.none _)
   | (with_reducible refine LeO.ite ?_ ?_)
   | (with_reducible refine LeO.bind ?_ (fun _ => ?_))
   | exact ih0 _ _ _ _ _
   | exact poly_Right.mono _ _
   | exact wide_Wide_Sign.mono _ _ _
   | exact LeO.none _
   | refine LeO.ite ?_ ?_
   | refine LeO.bind ?_ (fun _ => ?_)
def poly_Left.T8 : Bool × List (List Nat × List Nat) := (true, [([], []), ([], []), ([1], [1]), ([], []), ([3], [3]), ([2, 4], [2, 4]), ([0, 5, 5], [0, 5]), ([6], [6]), ([7], [7]), ([7], [7]), ([8, 6, 0, 1, 2, 3, 4, 5, 6, 7, 8], [8])])
def poly_Left.B8 : List Nat := [0, 0, 2, 0, 8, 30, 63, 127, 255, 255, 511]
theorem poly_Left.tab8 : rtab .any (opsOf Try.f34 8) = poly_Left.T8 := by kernel_rfl
theorem poly_Left.bits8 : waitsOk poly_Left.T8.2 poly_Left.B8 = true := by kernel_rfl
def poly_Left.T9 : Bool × List (List Nat × List Nat) := (true, [([], []), ([], []), ([1], [1]), ([], []), ([3], [3]), ([2, 4], [2, 4]), ([0, 5, 5], [0, 5]), ([6], [6]), ([7], [7]), ([7], [7]), ([8, 6, 0, 1, 2, 3, 4, 5, 6, 7, 8], [8])])
def poly_Left.B9 : List Nat := [0, 0, 2, 0, 8, 30, 63, 127, 255, 255, 511]
theorem poly_Left.tab9 : rtab .any (opsOf Try.f34 9) = poly_Left.T9 := by kernel_rfl
theorem poly_Left.bits9 : waitsOk poly_Left.T9.2 poly_Left.B9 = true := by kernel_rfl
set_option maxHeartbeats 8000000 in
set_option maxRecDepth 100000 in
theorem poly_Left.calls (k : Nat) (A0 : Option Addr) (c0 : Nat) (l0 : List (S41)) (r : Bool) (w : World) (hr0 : Kd.C k41 w A0 l0.length l0) (hc0 : l0.length ≤ c0) (h : poly_Left.f k l0 = some r) :
  Calls Try.prog 34 #[.slice A0 l0.length c0] w fun e w' => e = .returned (.bool r) ∧ Below w.heap.size w w' := by
 have hu85 := Try.underlying85
 have hu41 := Try.underlying41
 have HR0 := bA hr0
 have HC0 := bA hc0
 clear hr0 hc0
 have HB := bA (Below.refl w.heap.size w)
 have H : ((poly_Right.f k l0).bind fun t269 => (if t269 = true then (poly_Left.l0 k l0 (l0.length : Int) 0 0 0) else (some false))) = some r := h
 clear h
 replace H := Option.bind_eq_some_iff.mp H
 obtain ⟨t269, A20, H⟩ := H
 have A2 := bA A20
 clear A20
 by_cases c3 : t269 = true
 rotate_left
 ·replace c3 := Bool.eq_false_iff.mpr c3
  subst c3
  rw [if_neg bn] at H
  obtain rfl := Option.some.inj H
  go_enter Try.func34, Try.ntmps34
  go_wp2_with (first | ((first | ((with_reducible refine gate_callee (f := 31) rfl ?_); refine bC (some 8) Try.func31 #[.slice A0 l0.length c0] ?_) | go_at_call 31); (with_reducible refine (poly_Right.calls k _ _ l0 false _ ?side1 ?side2 A2.out).mono ?_); (case side1 => repeat (first | exact HR0.out | (with_reducible refine Kd.C_alloc ?_ _) | (with_reducible refine Kd.C_drewN ?_ _) | (with_reducible refine Kd.C_drew ?_))); (case side2 => exact HC0.out); rintro e w36 ⟨rfl, hb⟩; (first | refine ⟨_, rfl, ?_⟩ | skip); replace HB := bA (bS hb); (try clear hb)))
  go_ret
  exact bF
 subst c3
 rw [if_pos rfl] at H
 have H' := bA H
 clear H
 go_enter Try.func34, Try.ntmps34
 go_wp2_with (first | ((first | ((with_reducible refine gate_callee (f := 31) rfl ?_); refine bC (some 8) Try.func31 #[.slice A0 l0.length c0] ?_) | go_at_call 31); (with_reducible refine (poly_Right.calls k _ _ l0 true _ ?side1 ?side2 A2.out).mono ?_); (case side1 => repeat (first | exact HR0.out | (with_reducible refine Kd.C_alloc ?_ _) | (with_reducible refine Kd.C_drewN ?_ _) | (with_reducible refine Kd.C_drew ?_))); (case side2 => exact HC0.out); rintro e w4 ⟨rfl, hb⟩; (first | refine ⟨_, rfl, ?_⟩ | skip); replace HB := bA (bS hb); (try clear hb)) | ((with_reducible refine gate_dst (N := 3) rfl ?_); refine bE (N := 3) (cs := #[.int .i64 0, .int .u64 0]) (t := 85) ?_; intro gb270 hg w5 hbox hb; have BK270 := bA (hbox); have GW270 := bA (bZ hg); have GE270 := bA (bZ hg); replace HB := bA (bS hb); clear hb hbox hg; obtain ⟨hcz6_0, hcz6_1, hfz6_0, hfz6_1⟩ := bc2 BK270))
 go_loopg [13] k (fun kq v13 w' => ∃ (x13_1 : Int) (x271000_1 : Int) (x271001_1 : Int), v13 = .int .i64 x13_1 ∧ Aside0 (poly_Left.l0 kq l0 (l0.length : Int) x13_1 x271000_1 x271001_1 = some r) ∧ Aside0 (kq ≤ k) ∧ Aside0 (w'.heap[gb270]? = some (.cells #[.int .i64 x271000_1, .int .u64 x271001_1] 85 (0, 0))) ∧ Aside0 (Below w.heap.size w w'))
 case atStart => exact ⟨(0), (0), (0), bs, H', ⟨Nat.le_refl _⟩, ⟨by (with_reducible repeat (first | refine blk_drewN ?_ _ | refine blk_drew ?_ | refine blk_alloc ?_ _)); refine blk_put (cs := #[.int .i64 0, .int .u64 0]) ?_ 1 _ rfl; (with_reducible repeat (first | refine blk_drewN ?_ _ | refine blk_drew ?_ | refine blk_alloc ?_ _)); refine blk_put (cs := #[.int .i64 0, .int .u64 0]) ?_ 0 _ rfl; (with_reducible repeat (first | refine blk_drewN ?_ _ | refine blk_drew ?_ | refine blk_alloc ?_ _)); exact BK270.out⟩, ⟨bX⟩⟩
 clear H'
 try clear p2
 try clear c3
 try clear hcz6_0
 try clear hcz6_1
 try clear hfz6_0
 try clear hfz6_1
 obtain ⟨x13_1, x271000_1, x271001_1, rfl, HA, HK1, BK270, HB⟩ := hrel
 cases gk with
 | zero => exact absurd HA.out (by simp [poly_Left.l0])
 | succ k1 =>
  have H := HA.out
  clear HA
  simp only [poly_Left.l0] at H
  by_cases c7 : x13_1 < (l0.length : Int)
  rotate_left
  ·rw [if_neg c7] at H
   have c7b0 : decide (x13_1 < (l0.length : Int)) = false := decide_eq_false c7
   clear c7
   replace H := Option.bind_eq_some_iff.mp H
   obtain ⟨t271, A330, H⟩ := H
   have A33 := bA A330
   clear A330
   obtain rfl := Option.some.inj H
   obtain ⟨hcz34_0, hcz34_1, hfz34_0, hfz34_1⟩ := bc2 BK270
   go_wp2_with (first | ((first | ((with_reducible refine gate_callee (f := 79) rfl ?_); refine bC (some 44) Try.func79 #[.agg #[.int .i64 x271000_1, .int .u64 x271001_1]] ?_) | go_at_call 79); (with_reducible refine (wide_Wide_Sign.calls k1 x271000_1 x271001_1 t271 _ A33.out).mono ?_); rintro e w35 ⟨rfl, hb⟩; (first | refine ⟨_, rfl, ?_⟩ | skip); replace BK270 := bA (bB BK270 hb); replace HB := bA (bS hb); (try clear hb)))
   go_ret
   exact bF
  rw [if_pos c7] at H
  have c7b0 : decide (x13_1 < (l0.length : Int)) = true := decide_eq_true c7
  clear c7
  replace H := Option.bind_eq_some_iff.mp H
  obtain ⟨⟨t272, t273, t274, t275⟩, A80, H⟩ := H
  replace H : ((wide_Mul.f t272 t275).bind fun bt278 => ((wide_Wide_Add.f x271000_1 x271001_1 bt278.1 bt278.2).bind fun bt280 => ((wide_Mul.f t273 t274).bind fun bt283 => ((wide_Wide_Sub.f bt280.1 bt280.2.1 bt283.1 bt283.2).bind fun bt285 => (poly_Left.l0 k1 l0 (l0.length : Int) (wrap64 (x13_1 + 1)) bt285.1 bt285.2.1))))) = some r := H
  have A8 := bA A80
  clear A80
  replace H := Option.bind_eq_some_iff.mp H
  obtain ⟨⟨t278, t279⟩, A90, H⟩ := H
  replace H : ((wide_Wide_Add.f x271000_1 x271001_1 t278 t279).bind fun bt280 => ((wide_Mul.f t273 t274).bind fun bt283 => ((wide_Wide_Sub.f bt280.1 bt280.2.1 bt283.1 bt283.2).bind fun bt285 => (poly_Left.l0 k1 l0 (l0.length : Int) (wrap64 (x13_1 + 1)) bt285.1 bt285.2.1)))) = some r := H
  have A9 := bA A90
  clear A90
  replace H := Option.bind_eq_some_iff.mp H
  obtain ⟨⟨t280, t281, t282⟩, A100, H⟩ := H
  replace H : ((wide_Mul.f t273 t274).bind fun bt283 => ((wide_Wide_Sub.f t280 t281 bt283.1 bt283.2).bind fun bt285 => (poly_Left.l0 k1 l0 (l0.length : Int) (wrap64 (x13_1 + 1)) bt285.1 bt285.2.1))) = some r := H
  have A10 := bA A100
  clear A100
  replace H := Option.bind_eq_some_iff.mp H
  obtain ⟨⟨t283, t284⟩, A110, H⟩ := H
  replace H : ((wide_Wide_Sub.f t280 t281 t283 t284).bind fun bt285 => (poly_Left.l0 k1 l0 (l0.length : Int) (wrap64 (x13_1 + 1)) bt285.1 bt285.2.1)) = some r := H
  have A11 := bA A110
  clear A110
  replace H := Option.bind_eq_some_iff.mp H
  obtain ⟨⟨t285, t286, t287⟩, A120, H⟩ := H
  replace H : (poly_Left.l0 k1 l0 (l0.length : Int) (wrap64 (x13_1 + 1)) t285 t286) = some r := H
  have A12 := bA A120
  clear A120
  have H' := bA H
  clear H
  try go_wp2_with (first | ((first | ((with_reducible refine gate_callee (f := 73) rfl ?_); refine bC (some 19) Try.func73 #[.slice A0 l0.length c0, .int .i64 x13_1] ?_) | go_at_call 73); (with_reducible refine (poly_edge.calls _ _ l0 x13_1 t272 t273 t274 t275 _ ?side1 ?side2 A8.out).mono ?_); (case side1 => exact bQ HR0); (case side2 => exact HC0.out); rintro e w13 ⟨rfl, hb⟩; (first | refine ⟨_, rfl, ?_⟩ | skip); replace BK270 := bA (bB BK270 hb); replace HB := bA (bS hb); (try clear hb)) | ((with_reducible refine gate_dst (N := 5) rfl ?_); refine bE (N := 5) (cs := #[.int .i64 0, .int .i64 0]) (t := 41) ?_; intro gb276 hg w14 hbox hb; have BK276 := bA (hbox); have GW276 := bA (bZ hg); have GE276 := bA (bZ hg); have NB270_276 := bA (bL BK270 hg); have NB276_270 := bA (bG BK270 hg); replace BK270 := bA (bB BK270 hb); replace HB := bA (bS hb); clear hb hbox hg) | ((with_reducible refine gate_dst (N := 6) rfl ?_); refine bE (N := 6) (cs := #[.int .i64 0, .int .i64 0]) (t := 41) ?_; intro gb277 hg w15 hbox hb; have BK277 := bA (hbox); have GW277 := bA (bZ hg); have GE277 := bA (bZ hg); have NB270_277 := bA (bL BK270 hg); have NB277_270 := bA (bG BK270 hg); have NB276_277 := bA (bL BK276 hg); have NB277_276 := bA (bG BK276 hg); replace BK270 := bA (bB BK270 hb); replace BK276 := bA (bB BK276 hb); replace HB := bA (bS hb); clear hb hbox hg; have hnb16 := NB276_270.out; have hnc16 := NB270_276.out; have hnb17 := NB276_277.out; have hnc17 := NB277_276.out; obtain ⟨hcz18_0, hcz18_1, hfz18_0, hfz18_1⟩ := bc2 BK276; have hnb19 := NB277_270.out; have hnc19 := NB270_277.out; obtain ⟨hcz20_0, hcz20_1, hfz20_0, hfz20_1⟩ := bc2 BK277))
  have n0_ : Aside0 (((((w15.setCell ⟨gb276, 0, none⟩ (.int .i64 t272)).setCell ⟨gb276, 1, none⟩ (.int .i64 t273)).setCell ⟨gb277, 0, none⟩ (.int .i64 t274)).setCell ⟨gb277, 1, none⟩ (.int .i64 t275)).heap[gb270]? = some (.cells #[.int .i64 x271000_1, .int .u64 x271001_1] 85 (0, 0))) := ⟨by (repeat ((with_reducible repeat (first | refine blk_drewN ?_ _ | refine blk_drew ?_ | refine blk_alloc ?_ _)); refine blk_far ?_ NB270_277.out _)); (repeat ((with_reducible repeat (first | refine blk_drewN ?_ _ | refine blk_drew ?_ | refine blk_alloc ?_ _)); refine blk_far ?_ NB270_276.out _)); (with_reducible repeat (first | refine blk_drewN ?_ _ | refine blk_drew ?_ | refine blk_alloc ?_ _)); exact BK270.out⟩
  have n1_ : Aside0 (((((w15.setCell ⟨gb276, 0, none⟩ (.int .i64 t272)).setCell ⟨gb276, 1, none⟩ (.int .i64 t273)).setCell ⟨gb277, 0, none⟩ (.int .i64 t274)).setCell ⟨gb277, 1, none⟩ (.int .i64 t275)).heap[gb276]? = some (.cells #[.int .i64 t272, .int .i64 t273] 41 (0, 0))) := ⟨by (repeat ((with_reducible repeat (first | refine blk_drewN ?_ _ | refine blk_drew ?_ | refine blk_alloc ?_ _)); refine blk_far ?_ NB276_277.out _)); (with_reducible repeat (first | refine blk_drewN ?_ _ | refine blk_drew ?_ | refine blk_alloc ?_ _)); refine blk_put (cs := #[.int .i64 t272, .int .i64 0]) ?_ 1 _ rfl; (with_reducible repeat (first | refine blk_drewN ?_ _ | refine blk_drew ?_ | refine blk_alloc ?_ _)); refine blk_put (cs := #[.int .i64 0, .int .i64 0]) ?_ 0 _ rfl; (with_reducible repeat (first | refine blk_drewN ?_ _ | refine blk_drew ?_ | refine blk_alloc ?_ _)); exact BK276.out⟩
  have n2_ : Aside0 (((((w15.setCell ⟨gb276, 0, none⟩ (.int .i64 t272)).setCell ⟨gb276, 1, none⟩ (.int .i64 t273)).setCell ⟨gb277, 0, none⟩ (.int .i64 t274)).setCell ⟨gb277, 1, none⟩ (.int .i64 t275)).heap[gb277]? = some (.cells #[.int .i64 t274, .int .i64 t275] 41 (0, 0))) := ⟨by (with_reducible repeat (first | refine blk_drewN ?_ _ | refine blk_drew ?_ | refine blk_alloc ?_ _)); refine blk_put (cs := #[.int .i64 t274, .int .i64 0]) ?_ 1 _ rfl; (with_reducible repeat (first | refine blk_drewN ?_ _ | refine blk_drew ?_ | refine blk_alloc ?_ _)); refine blk_put (cs := #[.int .i64 0, .int .i64 0]) ?_ 0 _ rfl; (repeat ((with_reducible repeat (first | refine blk_drewN ?_ _ | refine blk_drew ?_ | refine blk_alloc ?_ _)); refine blk_far ?_ NB277_276.out _)); (with_reducible repeat (first | refine blk_drewN ?_ _ | refine blk_drew ?_ | refine blk_alloc ?_ _)); exact BK277.out⟩
  have n3_ : Aside0 (Below w.heap.size w ((((w15.setCell ⟨gb276, 0, none⟩ (.int .i64 t272)).setCell ⟨gb276, 1, none⟩ (.int .i64 t273)).setCell ⟨gb277, 0, none⟩ (.int .i64 t274)).setCell ⟨gb277, 1, none⟩ (.int .i64 t275))) := ⟨bX⟩
  (try clear BK270)
  (try clear BK276)
  (try clear BK277)
  (try clear HB)
  generalize ((((w15.setCell ⟨gb276, 0, none⟩ (.int .i64 t272)).setCell ⟨gb276, 1, none⟩ (.int .i64 t273)).setCell ⟨gb277, 0, none⟩ (.int .i64 t274)).setCell ⟨gb277, 1, none⟩ (.int .i64 t275)) = w21 at n0_ n1_ n2_ n3_ ⊢
  have BK270 := n0_
  have BK276 := n1_
  have BK277 := n2_
  have HB := n3_
  clear n0_ n1_ n2_ n3_
  replace BK270 := bA (blk_drew BK270.out)
  replace BK276 := bA (blk_drew BK276.out)
  replace BK277 := bA (blk_drew BK277.out)
  replace HB := bA (below_drew1 HB.out)
  refine start_ (n := 11) (S := fun w' => w'.cell? ⟨gb270, 0, none⟩ = some (.int .i64 x271000_1) ∧ w'.cell? ⟨gb270, 1, none⟩ = some (.int .u64 x271001_1) ∧ w'.cell? ⟨gb276, 0, none⟩ = some (.int .i64 t272) ∧ w'.cell? ⟨gb276, 1, none⟩ = some (.int .i64 t273) ∧ w'.cell? ⟨gb277, 0, none⟩ = some (.int .i64 t274) ∧ w'.cell? ⟨gb277, 1, none⟩ = some (.int .i64 t275)) (ds := [10]) #[false,false,false,false,false,false,false,false,false,false,false] (by kernel_rfl) rfl rfl ⟨bq BK270 0, bq BK270 1, bq BK276 0, bq BK276 1, bq BK277 0, bq BK277 1⟩ (fun hHeld => ?_); refine with_tabW poly_Left.tab8 poly_Left.bits8 (fun HT_ HW_ => ?_)
  generalize w21.drew = w22 at BK270 BK276 BK277 HB hHeld ⊢
  refine bU (i := 1) (N := some 24) ?_
  refine bU (i := 3) (N := some 26) ?_
  refine bW (i := 0) (N := some 23) hHeld ?_
  refine bW (i := 2) (N := some 25) hHeld ?_
  refine bW (i := 4) (N := some 27) hHeld ?_
  refine one_ (i := 5) (N := some 28) #[true,true,true,true,true,true,false,false,false,false,false] rfl rfl (one_of HT_.out (by kernel_rfl)) (by decide) (fun K hK => ?_)
  refine goes_ Try.func77 (by kernel_rfl) rfl #[.int .i64 t272, .int .i64 t275] (by rfl) rfl rfl (by (try simp only [List.map_toArray, List.map_cons, List.map_nil]); first | done | rfl | (simp only [List.length_drop, List.length_take]; rfl)) ?_
  with_reducible refine (wide_Mul.calls t272 t275 t278 t279 _ A9.out).mono ?_
  rintro e w23 ⟨rfl, hb⟩
  refine ⟨_, rfl, ?_⟩
  replace BK270 := bA (bB BK270 hb)
  replace BK276 := bA (bB BK276 hb)
  replace BK277 := bA (bB BK277 hb)
  replace HB := bA (bS hb)
  (try clear hb)
  refine hK.out _ _ ⟨bq BK270 0, bq BK270 1, bq BK276 0, bq BK276 1, bq BK277 0, bq BK277 1⟩ (fun hHeld => ?_)
  clear hK K
  refine bH ?_
  refine one_ (i := 6) (N := some 29) #[true,true,true,true,true,true,true,false,false,false,false] rfl rfl (one_of HT_.out (by kernel_rfl)) (by decide) (fun K hK => ?_)
  refine goes_ Try.func76 (by kernel_rfl) rfl #[.agg #[.int .i64 x271000_1, .int .u64 x271001_1], .agg #[.int .i64 t278, .int .u64 t279]] (by rfl) rfl rfl (by (try simp only [List.map_toArray, List.map_cons, List.map_nil]); first | done | rfl | (simp only [List.length_drop, List.length_take]; rfl)) ?_
  with_reducible refine (wide_Wide_Add.calls x271000_1 x271001_1 t278 t279 t280 t281 t282 _ A10.out).mono ?_
  rintro e w24 ⟨rfl, hb⟩
  refine ⟨_, rfl, ?_⟩
  replace BK270 := bA (bB BK270 hb)
  replace BK276 := bA (bB BK276 hb)
  replace BK277 := bA (bB BK277 hb)
  replace HB := bA (bS hb)
  (try clear hb)
  refine hK.out _ _ ⟨bq BK270 0, bq BK270 1, bq BK276 0, bq BK276 1, bq BK277 0, bq BK277 1⟩ (fun hHeld => ?_)
  clear hK K
  refine bH ?_
  refine bU (i := 7) (N := some 22) ?_
  refine bU (i := 8) (N := some 30) ?_
  refine bU (i := 9) (N := some 31) ?_
  refine last_ (i := 10) (N := none) #[true,true,true,true,true,true,true,true,true,true,true] rfl rfl (one_of HT_.out (by kernel_rfl)) (by decide) (fun K hK => ?_)
  have hs25 : w24.cell? ⟨gb270, 0, none⟩ = some (.int .i64 x271000_1) := bq BK270 0
  have hfs25 := blk_frozen BK270.out 0
  have hns25_1 := NB276_270.out
  have hns25_2 := NB277_270.out
  have hms25_1 := NB270_276.out
  have hms25_2 := NB270_277.out
  have hs26 : w24.cell? ⟨gb270, 1, none⟩ = some (.int .u64 x271001_1) := bq BK270 1
  have hfs26 := blk_frozen BK270.out 1
  have hns26_1 := NB276_270.out
  have hns26_2 := NB277_270.out
  have hms26_1 := NB270_276.out
  have hms26_2 := NB270_277.out
  refine skip_ (w1 := ?_) (by rfl) rfl ?_ ?_
  rotate_left
  ·go_simp
   rfl
  refine hK.out _ _ ?_
  clear hK K
  refine done_ (done_of HT_.out (by kernel_rfl)) ?_
  try go_wp2
  have n0_ : Aside0 (((w24.setCell ⟨gb270, 0, none⟩ (.int .i64 t280)).setCell ⟨gb270, 1, none⟩ (.int .u64 t281)).heap[gb270]? = some (.cells #[.int .i64 t280, .int .u64 t281] 85 (0, 0))) := ⟨by (with_reducible repeat (first | refine blk_drewN ?_ _ | refine blk_drew ?_ | refine blk_alloc ?_ _)); refine blk_put (cs := #[.int .i64 t280, .int .u64 x271001_1]) ?_ 1 _ rfl; (with_reducible repeat (first | refine blk_drewN ?_ _ | refine blk_drew ?_ | refine blk_alloc ?_ _)); refine blk_put (cs := #[.int .i64 x271000_1, .int .u64 x271001_1]) ?_ 0 _ rfl; (with_reducible repeat (first | refine blk_drewN ?_ _ | refine blk_drew ?_ | refine blk_alloc ?_ _)); exact BK270.out⟩
  have n1_ : Aside0 (((w24.setCell ⟨gb270, 0, none⟩ (.int .i64 t280)).setCell ⟨gb270, 1, none⟩ (.int .u64 t281)).heap[gb276]? = some (.cells #[.int .i64 t272, .int .i64 t273] 41 (0, 0))) := ⟨by (repeat ((with_reducible repeat (first | refine blk_drewN ?_ _ | refine blk_drew ?_ | refine blk_alloc ?_ _)); refine blk_far ?_ NB276_270.out _)); (with_reducible repeat (first | refine blk_drewN ?_ _ | refine blk_drew ?_ | refine blk_alloc ?_ _)); exact BK276.out⟩
  have n2_ : Aside0 (((w24.setCell ⟨gb270, 0, none⟩ (.int .i64 t280)).setCell ⟨gb270, 1, none⟩ (.int .u64 t281)).heap[gb277]? = some (.cells #[.int .i64 t274, .int .i64 t275] 41 (0, 0))) := ⟨by (repeat ((with_reducible repeat (first | refine blk_drewN ?_ _ | refine blk_drew ?_ | refine blk_alloc ?_ _)); refine blk_far ?_ NB277_270.out _)); (with_reducible repeat (first | refine blk_drewN ?_ _ | refine blk_drew ?_ | refine blk_alloc ?_ _)); exact BK277.out⟩
  have n3_ : Aside0 (Below w.heap.size w ((w24.setCell ⟨gb270, 0, none⟩ (.int .i64 t280)).setCell ⟨gb270, 1, none⟩ (.int .u64 t281))) := ⟨bX⟩
  (try clear BK270)
  (try clear BK276)
  (try clear BK277)
  (try clear HB)
  generalize ((w24.setCell ⟨gb270, 0, none⟩ (.int .i64 t280)).setCell ⟨gb270, 1, none⟩ (.int .u64 t281)) = w27 at n0_ n1_ n2_ n3_ ⊢
  have BK270 := n0_
  have BK276 := n1_
  have BK277 := n2_
  have HB := n3_
  clear n0_ n1_ n2_ n3_
  replace BK270 := bA (blk_drew BK270.out)
  replace BK276 := bA (blk_drew BK276.out)
  replace BK277 := bA (blk_drew BK277.out)
  replace HB := bA (below_drew1 HB.out)
  refine start_ (n := 11) (S := fun w' => w'.cell? ⟨gb270, 0, none⟩ = some (.int .i64 t280) ∧ w'.cell? ⟨gb270, 1, none⟩ = some (.int .u64 t281) ∧ w'.cell? ⟨gb276, 0, none⟩ = some (.int .i64 t272) ∧ w'.cell? ⟨gb276, 1, none⟩ = some (.int .i64 t273) ∧ w'.cell? ⟨gb277, 0, none⟩ = some (.int .i64 t274) ∧ w'.cell? ⟨gb277, 1, none⟩ = some (.int .i64 t275)) (ds := [10]) #[false,false,false,false,false,false,false,false,false,false,false] (by kernel_rfl) rfl rfl ⟨bq BK270 0, bq BK270 1, bq BK276 0, bq BK276 1, bq BK277 0, bq BK277 1⟩ (fun hHeld => ?_); refine with_tabW poly_Left.tab9 poly_Left.bits9 (fun HT_ HW_ => ?_)
  generalize w27.drew = w28 at BK270 BK276 BK277 HB hHeld ⊢
  refine bU (i := 1) (N := some 34) ?_
  refine bU (i := 3) (N := some 36) ?_
  refine bW (i := 0) (N := some 33) hHeld ?_
  refine bW (i := 2) (N := some 35) hHeld ?_
  refine bW (i := 4) (N := some 37) hHeld ?_
  refine one_ (i := 5) (N := some 38) #[true,true,true,true,true,true,false,false,false,false,false] rfl rfl (one_of HT_.out (by kernel_rfl)) (by decide) (fun K hK => ?_)
  refine goes_ Try.func77 (by kernel_rfl) rfl #[.int .i64 t273, .int .i64 t274] (by rfl) rfl rfl (by (try simp only [List.map_toArray, List.map_cons, List.map_nil]); first | done | rfl | (simp only [List.length_drop, List.length_take]; rfl)) ?_
  with_reducible refine (wide_Mul.calls t273 t274 t283 t284 _ A11.out).mono ?_
  rintro e w29 ⟨rfl, hb⟩
  refine ⟨_, rfl, ?_⟩
  replace BK270 := bA (bB BK270 hb)
  replace BK276 := bA (bB BK276 hb)
  replace BK277 := bA (bB BK277 hb)
  replace HB := bA (bS hb)
  (try clear hb)
  refine hK.out _ _ ⟨bq BK270 0, bq BK270 1, bq BK276 0, bq BK276 1, bq BK277 0, bq BK277 1⟩ (fun hHeld => ?_)
  clear hK K
  refine bH ?_
  refine one_ (i := 6) (N := some 39) #[true,true,true,true,true,true,true,false,false,false,false] rfl rfl (one_of HT_.out (by kernel_rfl)) (by decide) (fun K hK => ?_)
  refine goes_ Try.func78 (by kernel_rfl) rfl #[.agg #[.int .i64 t280, .int .u64 t281], .agg #[.int .i64 t283, .int .u64 t284]] (by rfl) rfl rfl (by (try simp only [List.map_toArray, List.map_cons, List.map_nil]); first | done | rfl | (simp only [List.length_drop, List.length_take]; rfl)) ?_
  with_reducible refine (wide_Wide_Sub.calls t280 t281 t283 t284 t285 t286 t287 _ A12.out).mono ?_
  rintro e w30 ⟨rfl, hb⟩
  refine ⟨_, rfl, ?_⟩
  replace BK270 := bA (bB BK270 hb)
  replace BK276 := bA (bB BK276 hb)
  replace BK277 := bA (bB BK277 hb)
  replace HB := bA (bS hb)
  (try clear hb)
  refine hK.out _ _ ⟨bq BK270 0, bq BK270 1, bq BK276 0, bq BK276 1, bq BK277 0, bq BK277 1⟩ (fun hHeld => ?_)
  clear hK K
  refine bH ?_
  refine bU (i := 7) (N := some 32) ?_
  refine bU (i := 8) (N := some 40) ?_
  refine bU (i := 9) (N := some 41) ?_
  refine last_ (i := 10) (N := none) #[true,true,true,true,true,true,true,true,true,true,true] rfl rfl (one_of HT_.out (by kernel_rfl)) (by decide) (fun K hK => ?_)
  have hs31 : w30.cell? ⟨gb270, 0, none⟩ = some (.int .i64 t280) := bq BK270 0
  have hfs31 := blk_frozen BK270.out 0
  have hns31_1 := NB276_270.out
  have hns31_2 := NB277_270.out
  have hms31_1 := NB270_276.out
  have hms31_2 := NB270_277.out
  have hs32 : w30.cell? ⟨gb270, 1, none⟩ = some (.int .u64 t281) := bq BK270 1
  have hfs32 := blk_frozen BK270.out 1
  have hns32_1 := NB276_270.out
  have hns32_2 := NB277_270.out
  have hms32_1 := NB270_276.out
  have hms32_2 := NB270_277.out
  refine skip_ (w1 := ?_) (by rfl) rfl ?_ ?_
  rotate_left
  ·go_simp
   rfl
  refine hK.out _ _ ?_
  clear hK K
  refine done_ (done_of HT_.out (by kernel_rfl)) ?_
  try go_wp2
  go_roundg k1
  case measure => have := HK1.out; omega
  case rel => exact ⟨(wrap64 (x13_1 + 1)), (t285), (t286), bs, H', ⟨by have := HK1.out; omega⟩, ⟨by (with_reducible repeat (first | refine blk_drewN ?_ _ | refine blk_drew ?_ | refine blk_alloc ?_ _)); refine blk_put (cs := #[.int .i64 t285, .int .u64 t281]) ?_ 1 _ rfl; (with_reducible repeat (first | refine blk_drewN ?_ _ | refine blk_drew ?_ | refine blk_alloc ?_ _)); refine blk_put (cs := #[.int .i64 t280, .int .u64 t281]) ?_ 0 _ rfl; (with_reducible repeat (first | refine blk_drewN ?_ _ | refine blk_drew ?_ | refine blk_alloc ?_ _)); exact BK270.out⟩, ⟨bX⟩⟩
/-! ### slices_Clone_Point: function 56 -/
def slices_Clone_Point.f (l0 : List (S41)) : Option ((List (S41))) := (some (([] : List (S41)) : List (S41))).bind fun y288 => (if y288.length + l0.length < 8796093022208 then (some (y288 ++ l0)) else (none))
set_option maxHeartbeats 8000000 in
set_option maxRecDepth 100000 in
theorem slices_Clone_Point.calls (A0 : Option Addr) (c0 : Nat) (l0 : List (S41)) (r : List (S41)) (w : World) (hr0 : Kd.C k41 w A0 l0.length l0) (hc0 : l0.length ≤ c0) (h : slices_Clone_Point.f l0 = some r) :
  Calls Try.prog 56 #[.slice A0 l0.length c0] w fun e w' => ∃ v0_ : Value, e = .returned (v0_) ∧ Kd.R k41 41 w' w.heap.size (fun _ => True) v0_ r ∧ Below w.heap.size w w' := by
 have HR0 := bA hr0
 have HC0 := bA hc0
 clear hr0 hc0
 have HB := bA (Below.refl w.heap.size w)
 have q28 : ∀ (w : World) (a : Option Addr) (n c n' c' : Nat), (binOp .eql 28 (.slice a n c) (.slice none n' c')).run Try.prog w = .ok (.bool a.isNone) w := fun w a n c n' c' => Lib.run_eql_slice_nil w _ _ a n c n' c' Try.underlying28
 rcases A0 with _ | ad0_
 ·have hl_ : l0 = [] := List.eq_nil_of_length_eq_zero (by rcases Nat.eq_zero_or_pos l0.length with q | q; exact q; first | (obtain ⟨_, e_, _⟩ := HR0.out.2.2 q; cases e_) | (obtain ⟨A_, c_, e_, _, hF_⟩ := HO0.out; cases e_; obtain ⟨_, e2_, _⟩ := (Kd.F_now hF_).2.2 q; cases e2_))
  subst hl_
  obtain rfl : [] = r := by simpa [slices_Clone_Point.f] using h
  go_enter Try.func56, Try.ntmps56
  go_wp2
  go_ret
  exact ⟨_, rfl, by first | exact Kd.R_nil _ _ _ _ _ | exact Kd.N_nil _ _ _ _ _ | exact Kd.V_nil _ _ _ _ _, HB.out⟩
 have H : ((some (([] : List (S41)) : List (S41))).bind fun y288 => (if y288.length + l0.length < 8796093022208 then (some (y288 ++ l0)) else (none))) = some r := h
 clear h
 obtain ⟨y288, hy288⟩ : ∃ y_ : List (S41), y_ = (([] : List (S41))) := ⟨_, rfl⟩
 replace H : (if y288.length + l0.length < 8796093022208 then (some (y288 ++ l0)) else (none)) = some r := by first | (rw [hy288]; with_reducible exact H) | (have H2_ := (Option.bind_some _ _).symm.trans H; rw [hy288]; with_reducible exact H2_) | (have H2_ := (Option.bind_some _ _).symm.trans H; with_reducible exact H2_) | with_reducible exact H | (rw [hy288]; exact H) | exact H
 have Ny288 := bA hy288
 clear hy288
 by_cases c2 : y288.length + l0.length < 8796093022208
 rotate_left
 ·rw [if_neg c2] at H
  exact absurd H (by simp)
 rw [if_pos c2] at H
 have LMc2 := bA c2
 clear c2
 obtain ⟨y291, hy291⟩ : ∃ y_ : List (S41), y_ = (y288 ++ l0) := ⟨_, rfl⟩
 replace H : (some y291) = some r := by first | (rw [hy291]; with_reducible exact H) | (have H2_ := (Option.bind_some _ _).symm.trans H; rw [hy291]; with_reducible exact H2_) | (have H2_ := (Option.bind_some _ _).symm.trans H; with_reducible exact H2_) | with_reducible exact H | (rw [hy291]; exact H) | exact H
 have Ny291 := bA hy291
 clear hy291
 obtain rfl := Option.some.inj H
 go_enter Try.func56, Try.ntmps56
 go_wp2_with (first | ((with_reducible refine gate_dst (N := 5) rfl ?_); refine Kd.R_lit k41 _ 41 ?hg (N := 5) ?hd (xs := ([] : List (S41))) (inner := []) (ok := fun _ => True) (okp := fun _ => True) ?hr ?hp (fun _ hk => hk) trivial (Below.refl _ _) (Nat.le_refl _) (by simp) ?_; (case hd => rfl); (case hg => rfl); (case hr => first | (go_simp; done) | (go_simp; rfl)); (case hp => exact (Reps.none _ _)); intro v289 w3 ho4 hb hg_ hnew_; clear hg_ hnew_; (first | rw [← Ny288.out] at ho4 | (simp only [Int.reduceToNat] at ho4; rw [← Ny288.out] at ho4)); have HO290 := bA (Kd.R_lower ho4 bY); replace HB := bA (bS hb); clear hb ho4) | ((with_reducible refine gate_builtin (b := .append) (xs := #[.tmp 5, .tmp 6]) rfl ?_); at_builtin; refine Kd.R_append_rows k41 (w0 := w) w.heap.size rfl (.tmp 5) (.tmp 6) 28 41 (.agg #[(.int .i64 0), (.int .i64 0)]) 16 rfl Try.underlying28 info41 rfl (by decide) (by omega) v289 y288 l0 _ _ _ (fun _ => True) (fun _ => False) rfl rfl ?aO ?aR (fun _ _ h => h) (fun _ h => h.elim) ?aF ?aB ?aS ?aL ?_; (case aR => exact bQ HR0); (case aB => exact bX); (case aF => exact (fun _ _ => trivial)); (case aO => exact (bRr HO290)); (case aS => exact bY); (case aL => have := LMc2.out; omega); intro v292 w5 ho hb hg hat; rw [← Ny291.out] at ho; have HO293 := bA (ho); replace HB := bA (hb); clear HO290; clear ho hb hg hat))
 go_ret
 exact ⟨_, by first | rfl | (simp [errW_none, errW_some] <;> rfl) | (simp [*, errW_none, errW_some] <;> rfl), bRr HO293, by repeat (first | (with_reducible first | exact HB.out | apply below_alloc | apply pw_below_drewN | apply below_drew1) | exact HB.out)⟩
end Go.Proofs.Ytjmibjmlihmglaa.G
