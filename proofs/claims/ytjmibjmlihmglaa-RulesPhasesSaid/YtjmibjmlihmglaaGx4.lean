-- Written by a program of this session out of the translation; Lean checks it.
import Derived.Test.YtjmibjmlihmglaaGx0
import Derived.Test.YtjmibjmlihmglaaGx3
namespace Go.Proofs.Ytjmibjmlihmglaa.G
open Go.RowKit Go.Proofs.YtjmibjmlihmglaaW.PrintWords Go.Proofs.YtjmibjmlihmglaaW.PrintLast Go.Proofs.YtjmibjmlihmglaaW.PrintMore
attribute [local go_sem] max2_int min2_int max_two min_two max_three min_three max_four min_four   -- for this text's walks alone
set_option linter.unusedVariables false
set_option linter.unusedSimpArgs false

/-! ### slices_IndexFunc_Point_F_poly_Simple_1: function 1000004 -/
def slices_IndexFunc_Point_F_poly_Simple_1.l0 : Nat → List (S41) → Int → Int → Option (Int)
 | 0, _, _, _ => none
 | k + 1, x0, x7, x8 => if x8 < x7 then (if 0 ≤ x8 then (if x8 < (x0.length : Int) then ((poly_Simple_1.f ((rd_T41 x0 x8).f0) ((rd_T41 x0 x8).f1)).bind fun t143 => (if t143 = true then (some x8) else (slices_IndexFunc_Point_F_poly_Simple_1.l0 k x0 x7 (wrap64 (x8 + 1))))) else (none)) else (none)) else (some (-1))
def slices_IndexFunc_Point_F_poly_Simple_1.f (k : Nat) (l0 : List (S41))  : Option (Int) := slices_IndexFunc_Point_F_poly_Simple_1.l0 k l0 (l0.length : Int) 0
theorem slices_IndexFunc_Point_F_poly_Simple_1.mono_l : ∀ k, (∀ y0 y1 y2, LeO (slices_IndexFunc_Point_F_poly_Simple_1.l0 k y0 y1 y2) (slices_IndexFunc_Point_F_poly_Simple_1.l0 (k + 1) y0 y1 y2))
 | 0 => fun _ _ _ r h => by simp [slices_IndexFunc_Point_F_poly_Simple_1.l0] at h
 | k + 1 => by
  have ih0 := slices_IndexFunc_Point_F_poly_Simple_1.mono_l k
  ·intro y0 y1 y2
   unfold slices_IndexFunc_Point_F_poly_Simple_1.l0
   exact bMo
theorem slices_IndexFunc_Point_F_poly_Simple_1.mono : ∀ a0 k, LeO (slices_IndexFunc_Point_F_poly_Simple_1.f k a0) (slices_IndexFunc_Point_F_poly_Simple_1.f (k + 1) a0) := by
 intro a0 k
 have ih0 := slices_IndexFunc_Point_F_poly_Simple_1.mono_l k
 unfold slices_IndexFunc_Point_F_poly_Simple_1.f
 exact bMo
set_option maxHeartbeats 8000000 in
set_option maxRecDepth 100000 in
theorem slices_IndexFunc_Point_F_poly_Simple_1.calls (k : Nat) (A0 : Option Addr) (c0 : Nat) (l0 : List (S41))  (r : Int) (w : World) (hr0 : Kd.C k41 w A0 l0.length l0) (hc0 : l0.length ≤ c0) (h : slices_IndexFunc_Point_F_poly_Simple_1.f k l0 = some r) :
  Calls Try.prog 102 #[.slice A0 l0.length c0, .func (.func 66) #[] #[]] w fun e w' => e = .returned (.int .i64 r) ∧ Below w.heap.size w w' := by
 have hu41 := Try.underlying41
 have HR0 := bA hr0
 have HC0 := bA hc0
 clear hr0 hc0
 have HB := bA (Below.refl w.heap.size w)
 have H : (slices_IndexFunc_Point_F_poly_Simple_1.l0 k l0 (l0.length : Int) 0) = some r := h
 clear h
 have H' := bA H
 clear H
 go_enter Try.func102, Try.ntmps102
 go_wp2
 go_loopg [8] k (fun kq v8 w' => ∃ (x8_1 : Int), v8 = .int .i64 x8_1 ∧ Aside0 (slices_IndexFunc_Point_F_poly_Simple_1.l0 kq l0 (l0.length : Int) x8_1 = some r) ∧ Aside0 (kq ≤ k) ∧ Aside0 (Below w.heap.size w w'))
 case atStart => exact ⟨(0), bs, H', ⟨Nat.le_refl _⟩, ⟨bX⟩⟩
 clear H'
 try clear c1
 try clear p2
 obtain ⟨x8_1, rfl, HA, HK1, HB⟩ := hrel
 cases gk with
 | zero => exact absurd HA.out (by simp [slices_IndexFunc_Point_F_poly_Simple_1.l0])
 | succ k1 =>
  have H := HA.out
  clear HA
  simp only [slices_IndexFunc_Point_F_poly_Simple_1.l0] at H
  by_cases c3 : x8_1 < (l0.length : Int)
  rw [if_pos c3] at H
  have c3b0 : decide (x8_1 < (l0.length : Int)) = true := decide_eq_true c3
  clear c3
  by_cases c4 : 0 ≤ x8_1
  rw [if_pos c4] at H
  have c4b0 : decide (0 ≤ x8_1) = true := decide_eq_true c4
  clear c4
  by_cases c5 : x8_1 < (l0.length : Int)
  rw [if_pos c5] at H
  have c5b0 : decide (x8_1 < (l0.length : Int)) = true := decide_eq_true c5
  clear c5
  replace H := Option.bind_eq_some_iff.mp H
  obtain ⟨t143, A60, H⟩ := H
  have A6 := bA A60
  clear A60
  by_cases c7 : t143 = true
  subst c7
  rw [if_pos rfl] at H
  obtain rfl := Option.some.inj H
  have p142 : 0 ≤ (x8_1 : Int) := bo
  have q142 : x8_1 < (l0.length : Int) := bo
  obtain ⟨ad142, e142, hx142_0, hx142_1⟩ := at_T41 HR0.out x8_1 p142 q142
  cases e142
  replace hx142_0 := bK hx142_0
  replace hx142_1 := bK hx142_1
  replace p142 := eq_true p142
  replace q142 := eq_true q142
  rotate_left
  replace c7 := Bool.eq_false_iff.mpr c7
  subst c7
  rw [if_neg bn] at H
  have H' := bA H
  clear H
  have p142 : 0 ≤ (x8_1 : Int) := bo
  have q142 : x8_1 < (l0.length : Int) := bo
  obtain ⟨ad142, e142, hx142_0, hx142_1⟩ := at_T41 HR0.out x8_1 p142 q142
  cases e142
  replace hx142_0 := bK hx142_0
  replace hx142_1 := bK hx142_1
  replace p142 := eq_true p142
  replace q142 := eq_true q142
  rotate_left
  rw [if_neg c5] at H
  exact absurd H (by simp)
  rw [if_neg c4] at H
  exact absurd H (by simp)
  rw [if_neg c3] at H
  have c3b0 : decide (x8_1 < (l0.length : Int)) = false := decide_eq_false c3
  clear c3
  obtain rfl := Option.some.inj H
  rotate_left
  all_goals go_wp2_with (first | (go_at_call 66; (with_reducible refine (poly_Simple_1.calls ((rd_T41 l0 x8_1).f0) ((rd_T41 l0 x8_1).f1) true _ A6.out).mono ?_); rintro e wz0 ⟨rfl, hb⟩; replace HB := bA (bS hb); (try clear hb)) | (go_at_call 66; (with_reducible refine (poly_Simple_1.calls ((rd_T41 l0 x8_1).f0) ((rd_T41 l0 x8_1).f1) false _ A6.out).mono ?_); rintro e wz0 ⟨rfl, hb⟩; replace HB := bA (bS hb); (try clear hb)))
  ·go_ret
   exact bF
  ·go_roundg k1
   case measure => have := HK1.out; omega
   case rel => exact ⟨(wrap64 (x8_1 + 1)), bs, H', ⟨by have := HK1.out; omega⟩, ⟨bX⟩⟩
  go_ret
  exact bF
/-! ### slices_ContainsFunc_Point_F_poly_Simple_1: function 1000003 -/
def slices_ContainsFunc_Point_F_poly_Simple_1.f (k : Nat) (l0 : List (S41))  : Option (Bool) := (slices_IndexFunc_Point_F_poly_Simple_1.f k l0).bind fun t144 => (some (decide (t144 ≥ 0)))
theorem slices_ContainsFunc_Point_F_poly_Simple_1.mono : ∀ a0 k, LeO (slices_ContainsFunc_Point_F_poly_Simple_1.f k a0) (slices_ContainsFunc_Point_F_poly_Simple_1.f (k + 1) a0) := by
 intro a0 k
 unfold slices_ContainsFunc_Point_F_poly_Simple_1.f
 have m0_ := @slices_IndexFunc_Point_F_poly_Simple_1.mono
 exact bMo
set_option maxHeartbeats 8000000 in
set_option maxRecDepth 100000 in
theorem slices_ContainsFunc_Point_F_poly_Simple_1.calls (k : Nat) (A0 : Option Addr) (c0 : Nat) (l0 : List (S41))  (r : Bool) (w : World) (hr0 : Kd.C k41 w A0 l0.length l0) (hc0 : l0.length ≤ c0) (h : slices_ContainsFunc_Point_F_poly_Simple_1.f k l0 = some r) :
  Calls Try.prog 65 #[.slice A0 l0.length c0, .func (.func 66) #[] #[]] w fun e w' => e = .returned (.bool r) ∧ Below w.heap.size w w' := by
 have HR0 := bA hr0
 have HC0 := bA hc0
 clear hr0 hc0
 have HB := bA (Below.refl w.heap.size w)
 have H : ((slices_IndexFunc_Point_F_poly_Simple_1.f k l0).bind fun t144 => (some (decide (t144 ≥ 0)))) = some r := h
 clear h
 replace H := Option.bind_eq_some_iff.mp H
 obtain ⟨t144, A30, H⟩ := H
 have A3 := bA A30
 clear A30
 obtain rfl := Option.some.inj H
 go_enter Try.func65, Try.ntmps65
 go_wp2_with (first | ((first | ((with_reducible refine gate_callee (f := 102) rfl ?_); refine bC (some 7) Try.func102 #[.slice A0 l0.length c0, .func (.func 66) #[] #[]] ?_) | go_at_call 102); (with_reducible refine (slices_IndexFunc_Point_F_poly_Simple_1.calls k _ _ l0  t144 _ ?side1 ?side2 A3.out).mono ?_); (case side1 => repeat (first | exact HR0.out | (with_reducible refine Kd.C_alloc ?_ _) | (with_reducible refine Kd.C_drewN ?_ _) | (with_reducible refine Kd.C_drew ?_))); (case side2 => exact HC0.out); rintro e w4 ⟨rfl, hb⟩; (first | refine ⟨_, rfl, ?_⟩ | skip); replace HB := bA (bS hb); (try clear hb)))
 go_ret
 exact bF
/-! ### poly_edge: function 73 -/
def poly_edge.f (l0 : List (S41)) (a1 : Int) : Option (Int × Int × Int × Int) := if 0 ≤ a1 then (if a1 < (l0.length : Int) then (if (l0.length : Int) = 0 then (none) else (if 0 ≤ (Int.tmod (wrap64 (a1 + 1)) (l0.length : Int)) then (if (Int.tmod (wrap64 (a1 + 1)) (l0.length : Int)) < (l0.length : Int) then (some ((rd_T41 l0 a1).f0, (rd_T41 l0 a1).f1, (rd_T41 l0 (Int.tmod (wrap64 (a1 + 1)) (l0.length : Int))).f0, (rd_T41 l0 (Int.tmod (wrap64 (a1 + 1)) (l0.length : Int))).f1)) else (none)) else (none))) else (none)) else (none)
def poly_edge.T1 : Bool × List (List Nat × List Nat) := (true, [([], []), ([], []), ([0, 1], [0, 1]), ([2], [2]), ([], []), ([], []), ([5], [5]), ([], []), ([7], [7]), ([6, 8], [6, 8]), ([4, 9], [4, 9]), ([10], [10]), ([3, 0, 1, 2, 3], [3]), ([11, 12, 0, 1, 2, 3, 4, 5, 6, 7, 8, 9, 10, 11, 12], [11])])
def poly_edge.B1 : List Nat := [0, 0, 3, 7, 0, 0, 32, 0, 128, 480, 1008, 2032, 15, 8191]
theorem poly_edge.tab1 : rtab .any (opsOf Try.f73 1) = poly_edge.T1 := by kernel_rfl
theorem poly_edge.bits1 : waitsOk poly_edge.T1.2 poly_edge.B1 = true := by kernel_rfl
set_option maxHeartbeats 8000000 in
set_option maxRecDepth 100000 in
theorem poly_edge.calls (A0 : Option Addr) (c0 : Nat) (l0 : List (S41)) (a1 : Int) (r1 : Int) (r2 : Int) (r3 : Int) (r4 : Int) (w : World) (hr0 : Kd.C k41 w A0 l0.length l0) (hc0 : l0.length ≤ c0) (h : poly_edge.f l0 a1 = some (r1, r2, r3, r4)) :
  Calls Try.prog 73 #[.slice A0 l0.length c0, .int .i64 a1] w fun e w' => e = .returned (.tuple #[.agg #[.int .i64 r1, .int .i64 r2], .agg #[.int .i64 r3, .int .i64 r4]]) ∧ Below w.heap.size w w' := by
 have hu41 := Try.underlying41
 have HR0 := bA hr0
 have HC0 := bA hc0
 clear hr0 hc0
 have HB := bA (Below.refl w.heap.size w)
 have H : (if 0 ≤ a1 then (if a1 < (l0.length : Int) then (if (l0.length : Int) = 0 then (none) else (if 0 ≤ (Int.tmod (wrap64 (a1 + 1)) (l0.length : Int)) then (if (Int.tmod (wrap64 (a1 + 1)) (l0.length : Int)) < (l0.length : Int) then (some ((rd_T41 l0 a1).f0, (rd_T41 l0 a1).f1, (rd_T41 l0 (Int.tmod (wrap64 (a1 + 1)) (l0.length : Int))).f0, (rd_T41 l0 (Int.tmod (wrap64 (a1 + 1)) (l0.length : Int))).f1)) else (none)) else (none))) else (none)) else (none)) = some (r1, r2, r3, r4) := h
 clear h
 by_cases c3 : 0 ≤ a1
 rotate_left
 ·rw [if_neg c3] at H
  exact absurd H (by simp)
 rw [if_pos c3] at H
 have c3b0 : decide (0 ≤ a1) = true := decide_eq_true c3
 clear c3
 by_cases c4 : a1 < (l0.length : Int)
 rotate_left
 ·rw [if_neg c4] at H
  exact absurd H (by simp)
 rw [if_pos c4] at H
 have c4b0 : decide (a1 < (l0.length : Int)) = true := decide_eq_true c4
 clear c4
 by_cases c5 : (l0.length : Int) = 0
 ·rw [if_pos c5] at H
  exact absurd H (by simp)
 rw [if_neg c5] at H
 have c5b0 : ((l0.length : Int) == 0) = false := beq_eq_false_iff_ne.mpr c5
 have c5b1 : ((l0.length : Int) != 0) = true := bne_iff_ne.mpr c5
 have c5b2 : ¬ (l0 = []) := fun h_ => c5 (by rw [h_]; rfl)
 obtain ⟨ji6, hji6⟩ : ∃ j_ : Int, (Int.tmod (wrap64 (a1 + 1)) (l0.length : Int)) = j_ := ⟨_, rfl⟩
 replace H : (if 0 ≤ (ji6) then (if (ji6) < (l0.length : Int) then (some ((rd_T41 l0 a1).f0, (rd_T41 l0 a1).f1, (rd_T41 l0 (ji6)).f0, (rd_T41 l0 (ji6)).f1)) else (none)) else (none)) = some (r1, r2, r3, r4) := by first | (rw [hji6] at H; exact H) | (simp only [hji6] at H ⊢; exact H)
 by_cases c7 : 0 ≤ (ji6)
 rotate_left
 ·rw [if_neg c7] at H
  exact absurd H (by simp)
 rw [if_pos c7] at H
 have c7b0 : decide (0 ≤ (ji6)) = true := decide_eq_true c7
 clear c7
 by_cases c8 : (ji6) < (l0.length : Int)
 rotate_left
 ·rw [if_neg c8] at H
  exact absurd H (by simp)
 rw [if_pos c8] at H
 have c8b0 : decide ((ji6) < (l0.length : Int)) = true := decide_eq_true c8
 clear c8
 simp only [Option.some.injEq, Prod.mk.injEq] at H
 obtain ⟨rfl, rfl, rfl, rfl⟩ := H
 go_enter Try.func73, Try.ntmps73
 try go_wp2_with (first | ((with_reducible refine gate_dst (N := 4) rfl ?_); refine bE (N := 4) (cs := #[.int .i64 0, .int .i64 0]) (t := 41) ?_; intro gb145 hg w9 hbox hb; have BK145 := bA (hbox); have GW145 := bA (bZ hg); have GE145 := bA (bZ hg); replace HB := bA (bS hb); clear hb hbox hg) | ((with_reducible refine gate_dst (N := 5) rfl ?_); refine bE (N := 5) (cs := #[.int .i64 0, .int .i64 0]) (t := 41) ?_; intro gb146 hg w10 hbox hb; have BK146 := bA (hbox); have GW146 := bA (bZ hg); have GE146 := bA (bZ hg); have NB145_146 := bA (bL BK145 hg); have NB146_145 := bA (bG BK145 hg); replace BK145 := bA (bB BK145 hb); replace HB := bA (bS hb); clear hb hbox hg))
 replace BK145 := bA (blk_drew BK145.out)
 replace BK146 := bA (blk_drew BK146.out)
 replace HB := bA (below_drew1 HB.out)
 have p147 : 0 ≤ (a1 : Int) := bo
 have q147 : a1 < (l0.length : Int) := bo
 obtain ⟨ad147, e147, hx147_0, hx147_1⟩ := at_T41 HR0.out a1 p147 q147
 have hw147_1 := hx147_1
 have hw147_0 := hx147_0
 cases e147
 replace hx147_0 := bK hx147_0
 replace hx147_1 := bK hx147_1
 replace p147 := eq_true p147
 replace q147 := eq_true q147
 have p148 : 0 ≤ ((ji6) : Int) := bo
 have q148 : (ji6) < (l0.length : Int) := bo
 obtain ⟨ad148, e148, hx148_0, hx148_1⟩ := at_T41 HR0.out (ji6) p148 q148
 have hw148_1 := hx148_1
 have hw148_0 := hx148_0
 obtain rfl : ad147 = ad148 := (by injection e148)
 replace hx148_0 := bK hx148_0
 replace hx148_1 := bK hx148_1
 replace p148 := eq_true p148
 replace q148 := eq_true q148
 refine start_ (n := 14) (S := fun w' => w'.cell? (ad147.add ((a1).toNat * 2)) = some (.int .i64 ((rd_T41 l0 a1).f0)) ∧ w'.cell? ⟨(ad147.add ((a1).toNat * 2)).block, (ad147.add ((a1).toNat * 2)).off + 1, none⟩ = some (.int .i64 ((rd_T41 l0 a1).f1)) ∧ w'.cell? (ad147.add (((ji6)).toNat * 2)) = some (.int .i64 ((rd_T41 l0 (ji6)).f0)) ∧ w'.cell? ⟨(ad147.add (((ji6)).toNat * 2)).block, (ad147.add (((ji6)).toNat * 2)).off + 1, none⟩ = some (.int .i64 ((rd_T41 l0 (ji6)).f1))) (ds := []) #[false,false,false,false,false,false,false,false,false,false,false,false,false,false] (by kernel_rfl) rfl rfl ⟨(bK hw147_0), (bK hw147_1), (bK hw148_0), (bK hw148_1)⟩ (fun hHeld => ?_); refine with_tabW poly_edge.tab1 poly_edge.bits1 (fun HT_ HW_ => ?_)
 generalize w10.drew = w11 at BK145 BK146 HB hx147_0 hx147_1 hx148_0 hx148_1 hHeld ⊢
 refine bU (i := 0) (N := some 6) ?_
 refine bU (i := 1) (N := some 7) ?_
 refine bU (i := 2) (N := some 8) ?_
 refine bU (i := 4) (N := some 10) ?_
 refine bU (i := 5) (N := some 11) ?_
 refine bU (i := 6) (N := some 12) ?_
 refine bU (i := 7) (N := some 13) ?_
 refine bU (i := 8) (N := some 14) ?_
 refine bU (i := 9) (N := some 15) ?_
 refine bU (i := 10) (N := some 16) ?_
 refine bW (i := 3) (N := some 9) hHeld ?_
 refine bW (i := 11) (N := some 17) hHeld ?_
 refine one_ (i := 12) (N := none) #[true,true,true,true,true,true,true,true,true,true,true,true,true,false] rfl rfl (one_of HT_.out (by kernel_rfl)) (by decide) (fun K hK => ?_)
 have hs12 : w11.cell? ⟨gb145, 0, none⟩ = some (.int .i64 0) := bq BK145 0
 have hfs12 := blk_frozen BK145.out 0
 have hns12_1 := NB146_145.out
 have hms12_1 := NB145_146.out
 have hs13 : w11.cell? ⟨gb145, 1, none⟩ = some (.int .i64 0) := bq BK145 1
 have hfs13 := blk_frozen BK145.out 1
 have hns13_1 := NB146_145.out
 have hms13_1 := NB145_146.out
 refine skip_ (w1 := ?_) (by rfl) rfl ?_ ?_
 rotate_left
 ·go_simp
  rfl
 refine hK.out _ _ ⟨((bV hw147_0 GW145).trans (((bV hw147_0 GW145).trans (hHeld.1)))), ((bV hw147_1 GW145).trans (((bV hw147_1 GW145).trans (hHeld.2.1)))), ((bV hw148_0 GW145).trans (((bV hw148_0 GW145).trans (hHeld.2.2.1)))), ((bV hw148_1 GW145).trans (((bV hw148_1 GW145).trans (hHeld.2.2.2))))⟩ (fun hHeld => ?_)
 clear hK K
 refine one_ (i := 13) (N := none) #[true,true,true,true,true,true,true,true,true,true,true,true,true,true] rfl rfl (one_of HT_.out (by kernel_rfl)) (by decide) (fun K hK => ?_)
 have hs14 : w11.cell? ⟨gb146, 0, none⟩ = some (.int .i64 0) := bq BK146 0
 have hfs14 := blk_frozen BK146.out 0
 have hns14_0 := NB145_146.out
 have hms14_0 := NB146_145.out
 have hs15 : w11.cell? ⟨gb146, 1, none⟩ = some (.int .i64 0) := bq BK146 1
 have hfs15 := blk_frozen BK146.out 1
 have hns15_0 := NB145_146.out
 have hms15_0 := NB146_145.out
 refine skip_ (w1 := ?_) (by rfl) rfl ?_ ?_
 rotate_left
 ·go_simp
  rfl
 refine hK.out _ _ ⟨((bV hw147_0 GW146).trans (((bV hw147_0 GW146).trans (hHeld.1)))), ((bV hw147_1 GW146).trans (((bV hw147_1 GW146).trans (hHeld.2.1)))), ((bV hw148_0 GW146).trans (((bV hw148_0 GW146).trans (hHeld.2.2.1)))), ((bV hw148_1 GW146).trans (((bV hw148_1 GW146).trans (hHeld.2.2.2))))⟩ (fun hHeld => ?_)
 clear hK K
 refine done_ (done_of HT_.out (by kernel_rfl)) ?_
 try go_wp2
 refine bodyPost_ret (results_cc rfl _ _ gb145 gb146 41 41 #[.int .i64 ((rd_T41 l0 a1).f0), .int .i64 ((rd_T41 l0 a1).f1)] #[.int .i64 ((rd_T41 l0 (ji6)).f0), .int .i64 ((rd_T41 l0 (ji6)).f1)] (0, 0) (0, 0) _ _ rfl (by (repeat ((with_reducible repeat (first | refine blk_drewN ?_ _ | refine blk_drew ?_ | refine blk_alloc ?_ _)); refine blk_far ?_ NB145_146.out _)); (with_reducible repeat (first | refine blk_drewN ?_ _ | refine blk_drew ?_ | refine blk_alloc ?_ _)); refine blk_put (cs := #[.int .i64 ((rd_T41 l0 a1).f0), .int .i64 0]) ?_ 1 _ rfl; (with_reducible repeat (first | refine blk_drewN ?_ _ | refine blk_drew ?_ | refine blk_alloc ?_ _)); refine blk_put (cs := #[.int .i64 0, .int .i64 0]) ?_ 0 _ rfl; (with_reducible repeat (first | refine blk_drewN ?_ _ | refine blk_drew ?_ | refine blk_alloc ?_ _)); exact BK145.out) Try.underlying41 rfl (by kernel_rfl) rfl (by (with_reducible repeat (first | refine blk_drewN ?_ _ | refine blk_drew ?_ | refine blk_alloc ?_ _)); refine blk_put (cs := #[.int .i64 ((rd_T41 l0 (ji6)).f0), .int .i64 0]) ?_ 1 _ rfl; (with_reducible repeat (first | refine blk_drewN ?_ _ | refine blk_drew ?_ | refine blk_alloc ?_ _)); refine blk_put (cs := #[.int .i64 0, .int .i64 0]) ?_ 0 _ rfl; (repeat ((with_reducible repeat (first | refine blk_drewN ?_ _ | refine blk_drew ?_ | refine blk_alloc ?_ _)); refine blk_far ?_ NB146_145.out _)); (with_reducible repeat (first | refine blk_drewN ?_ _ | refine blk_drew ?_ | refine blk_alloc ?_ _)); exact BK146.out) Try.underlying41 rfl (by kernel_rfl)) rfl ?_
 exact ⟨by first | rfl | (simp [errW_none, errW_some] <;> rfl) | (simp only [← hji6]; first | rfl | (simp [errW_none, errW_some] <;> rfl)) | (simp [*, errW_none, errW_some] <;> rfl), by repeat (first | (with_reducible first | exact HB.out | apply below_alloc | apply pw_below_drewN | apply below_drew1 | refine below_set ?_ GE145.out | refine below_set ?_ GE146.out) | exact HB.out)⟩
/-! ### point_right_1: function 112 -/
def point_right_1.f (a0_0 : Int) (a0_1 : Int) : Option (Bool) := (point_Right.f a0_0 a0_1).bind fun t150 => (some (!t150))
set_option maxHeartbeats 8000000 in
set_option maxRecDepth 100000 in
theorem point_right_1.calls (a0_0 : Int) (a0_1 : Int) (r : Bool) (w : World) (h : point_right_1.f a0_0 a0_1 = some r) :
  Calls Try.prog 112 #[.agg #[.int .i64 a0_0, .int .i64 a0_1]] w fun e w' => e = .returned (.bool r) ∧ Below w.heap.size w w' := by
 have hu41 := Try.underlying41
 have HB := bA (Below.refl w.heap.size w)
 have H : ((point_Right.f a0_0 a0_1).bind fun t150 => (some (!t150))) = some r := h
 clear h
 replace H := Option.bind_eq_some_iff.mp H
 obtain ⟨t150, A20, H⟩ := H
 have A2 := bA A20
 clear A20
 obtain rfl := Option.some.inj H
 go_enter Try.func112, Try.ntmps112
 go_wp2_with (first | ((with_reducible refine gate_dst (N := 1) rfl ?_); refine bE (N := 1) (cs := #[.int .i64 a0_0, .int .i64 a0_1]) (t := 41) ?_; intro gb149 hg w3 hbox hb; have BK149 := bA (hbox); have GW149 := bA (bZ hg); have GE149 := bA (bZ hg); replace HB := bA (bS hb); clear hb hbox hg; obtain ⟨hcz4_0, hcz4_1, hfz4_0, hfz4_1⟩ := bc2 BK149) | ((first | ((with_reducible refine gate_callee (f := 67) rfl ?_); refine bC (some 4) Try.func67 #[.agg #[.int .i64 a0_0, .int .i64 a0_1]] ?_) | go_at_call 67); (with_reducible refine (point_Right.calls a0_0 a0_1 t150 _ A2.out).mono ?_); rintro e w5 ⟨rfl, hb⟩; (first | refine ⟨_, rfl, ?_⟩ | skip); replace BK149 := bA (bB BK149 hb); replace HB := bA (bS hb); (try clear hb)))
 go_ret
 exact bF
/-! ### slices_IndexFunc_Point_F_point_right_1: function 1000006 -/
def slices_IndexFunc_Point_F_point_right_1.l0 : Nat → List (S41) → Int → Int → Option (Int)
 | 0, _, _, _ => none
 | k + 1, x0, x7, x8 => if x8 < x7 then (if 0 ≤ x8 then (if x8 < (x0.length : Int) then ((point_right_1.f ((rd_T41 x0 x8).f0) ((rd_T41 x0 x8).f1)).bind fun t152 => (if t152 = true then (some x8) else (slices_IndexFunc_Point_F_point_right_1.l0 k x0 x7 (wrap64 (x8 + 1))))) else (none)) else (none)) else (some (-1))
def slices_IndexFunc_Point_F_point_right_1.f (k : Nat) (l0 : List (S41))  : Option (Int) := slices_IndexFunc_Point_F_point_right_1.l0 k l0 (l0.length : Int) 0
theorem slices_IndexFunc_Point_F_point_right_1.mono_l : ∀ k, (∀ y0 y1 y2, LeO (slices_IndexFunc_Point_F_point_right_1.l0 k y0 y1 y2) (slices_IndexFunc_Point_F_point_right_1.l0 (k + 1) y0 y1 y2))
 | 0 => fun _ _ _ r h => by simp [slices_IndexFunc_Point_F_point_right_1.l0] at h
 | k + 1 => by
  have ih0 := slices_IndexFunc_Point_F_point_right_1.mono_l k
  ·intro y0 y1 y2
   unfold slices_IndexFunc_Point_F_point_right_1.l0
   exact bMo
theorem slices_IndexFunc_Point_F_point_right_1.mono : ∀ a0 k, LeO (slices_IndexFunc_Point_F_point_right_1.f k a0) (slices_IndexFunc_Point_F_point_right_1.f (k + 1) a0) := by
 intro a0 k
 have ih0 := slices_IndexFunc_Point_F_point_right_1.mono_l k
 unfold slices_IndexFunc_Point_F_point_right_1.f
 exact bMo
set_option maxHeartbeats 8000000 in
set_option maxRecDepth 100000 in
theorem slices_IndexFunc_Point_F_point_right_1.calls (k : Nat) (A0 : Option Addr) (c0 : Nat) (l0 : List (S41))  (r : Int) (w : World) (hr0 : Kd.C k41 w A0 l0.length l0) (hc0 : l0.length ≤ c0) (h : slices_IndexFunc_Point_F_point_right_1.f k l0 = some r) :
  Calls Try.prog 102 #[.slice A0 l0.length c0, .func (.func 112) #[] #[]] w fun e w' => e = .returned (.int .i64 r) ∧ Below w.heap.size w w' := by
 have hu41 := Try.underlying41
 have HR0 := bA hr0
 have HC0 := bA hc0
 clear hr0 hc0
 have HB := bA (Below.refl w.heap.size w)
 have H : (slices_IndexFunc_Point_F_point_right_1.l0 k l0 (l0.length : Int) 0) = some r := h
 clear h
 have H' := bA H
 clear H
 go_enter Try.func102, Try.ntmps102
 go_wp2
 go_loopg [8] k (fun kq v8 w' => ∃ (x8_1 : Int), v8 = .int .i64 x8_1 ∧ Aside0 (slices_IndexFunc_Point_F_point_right_1.l0 kq l0 (l0.length : Int) x8_1 = some r) ∧ Aside0 (kq ≤ k) ∧ Aside0 (Below w.heap.size w w'))
 case atStart => exact ⟨(0), bs, H', ⟨Nat.le_refl _⟩, ⟨bX⟩⟩
 clear H'
 try clear c1
 try clear p2
 obtain ⟨x8_1, rfl, HA, HK1, HB⟩ := hrel
 cases gk with
 | zero => exact absurd HA.out (by simp [slices_IndexFunc_Point_F_point_right_1.l0])
 | succ k1 =>
  have H := HA.out
  clear HA
  simp only [slices_IndexFunc_Point_F_point_right_1.l0] at H
  by_cases c3 : x8_1 < (l0.length : Int)
  rw [if_pos c3] at H
  have c3b0 : decide (x8_1 < (l0.length : Int)) = true := decide_eq_true c3
  clear c3
  by_cases c4 : 0 ≤ x8_1
  rw [if_pos c4] at H
  have c4b0 : decide (0 ≤ x8_1) = true := decide_eq_true c4
  clear c4
  by_cases c5 : x8_1 < (l0.length : Int)
  rw [if_pos c5] at H
  have c5b0 : decide (x8_1 < (l0.length : Int)) = true := decide_eq_true c5
  clear c5
  replace H := Option.bind_eq_some_iff.mp H
  obtain ⟨t152, A60, H⟩ := H
  have A6 := bA A60
  clear A60
  by_cases c7 : t152 = true
  subst c7
  rw [if_pos rfl] at H
  obtain rfl := Option.some.inj H
  have p151 : 0 ≤ (x8_1 : Int) := bo
  have q151 : x8_1 < (l0.length : Int) := bo
  obtain ⟨ad151, e151, hx151_0, hx151_1⟩ := at_T41 HR0.out x8_1 p151 q151
  cases e151
  replace hx151_0 := bK hx151_0
  replace hx151_1 := bK hx151_1
  replace p151 := eq_true p151
  replace q151 := eq_true q151
  rotate_left
  replace c7 := Bool.eq_false_iff.mpr c7
  subst c7
  rw [if_neg bn] at H
  have H' := bA H
  clear H
  have p151 : 0 ≤ (x8_1 : Int) := bo
  have q151 : x8_1 < (l0.length : Int) := bo
  obtain ⟨ad151, e151, hx151_0, hx151_1⟩ := at_T41 HR0.out x8_1 p151 q151
  cases e151
  replace hx151_0 := bK hx151_0
  replace hx151_1 := bK hx151_1
  replace p151 := eq_true p151
  replace q151 := eq_true q151
  rotate_left
  rw [if_neg c5] at H
  exact absurd H (by simp)
  rw [if_neg c4] at H
  exact absurd H (by simp)
  rw [if_neg c3] at H
  have c3b0 : decide (x8_1 < (l0.length : Int)) = false := decide_eq_false c3
  clear c3
  obtain rfl := Option.some.inj H
  rotate_left
  all_goals go_wp2_with (first | (go_at_call 112; (with_reducible refine (point_right_1.calls ((rd_T41 l0 x8_1).f0) ((rd_T41 l0 x8_1).f1) true _ A6.out).mono ?_); rintro e wz0 ⟨rfl, hb⟩; replace HB := bA (bS hb); (try clear hb)) | (go_at_call 112; (with_reducible refine (point_right_1.calls ((rd_T41 l0 x8_1).f0) ((rd_T41 l0 x8_1).f1) false _ A6.out).mono ?_); rintro e wz0 ⟨rfl, hb⟩; replace HB := bA (bS hb); (try clear hb)))
  ·go_ret
   exact bF
  ·go_roundg k1
   case measure => have := HK1.out; omega
   case rel => exact ⟨(wrap64 (x8_1 + 1)), bs, H', ⟨by have := HK1.out; omega⟩, ⟨bX⟩⟩
  go_ret
  exact bF
/-! ### slices_ContainsFunc_Point_F_point_right_1: function 1000005 -/
def slices_ContainsFunc_Point_F_point_right_1.f (k : Nat) (l0 : List (S41))  : Option (Bool) := (slices_IndexFunc_Point_F_point_right_1.f k l0).bind fun t153 => (some (decide (t153 ≥ 0)))
theorem slices_ContainsFunc_Point_F_point_right_1.mono : ∀ a0 k, LeO (slices_ContainsFunc_Point_F_point_right_1.f k a0) (slices_ContainsFunc_Point_F_point_right_1.f (k + 1) a0) := by
 intro a0 k
 unfold slices_ContainsFunc_Point_F_point_right_1.f
 have m0_ := @slices_IndexFunc_Point_F_point_right_1.mono
 exact bMo
set_option maxHeartbeats 8000000 in
set_option maxRecDepth 100000 in
theorem slices_ContainsFunc_Point_F_point_right_1.calls (k : Nat) (A0 : Option Addr) (c0 : Nat) (l0 : List (S41))  (r : Bool) (w : World) (hr0 : Kd.C k41 w A0 l0.length l0) (hc0 : l0.length ≤ c0) (h : slices_ContainsFunc_Point_F_point_right_1.f k l0 = some r) :
  Calls Try.prog 65 #[.slice A0 l0.length c0, .func (.func 112) #[] #[]] w fun e w' => e = .returned (.bool r) ∧ Below w.heap.size w w' := by
 have HR0 := bA hr0
 have HC0 := bA hc0
 clear hr0 hc0
 have HB := bA (Below.refl w.heap.size w)
 have H : ((slices_IndexFunc_Point_F_point_right_1.f k l0).bind fun t153 => (some (decide (t153 ≥ 0)))) = some r := h
 clear h
 replace H := Option.bind_eq_some_iff.mp H
 obtain ⟨t153, A30, H⟩ := H
 have A3 := bA A30
 clear A30
 obtain rfl := Option.some.inj H
 go_enter Try.func65, Try.ntmps65
 go_wp2_with (first | ((first | ((with_reducible refine gate_callee (f := 102) rfl ?_); refine bC (some 7) Try.func102 #[.slice A0 l0.length c0, .func (.func 112) #[] #[]] ?_) | go_at_call 102); (with_reducible refine (slices_IndexFunc_Point_F_point_right_1.calls k _ _ l0  t153 _ ?side1 ?side2 A3.out).mono ?_); (case side1 => repeat (first | exact HR0.out | (with_reducible refine Kd.C_alloc ?_ _) | (with_reducible refine Kd.C_drewN ?_ _) | (with_reducible refine Kd.C_drew ?_))); (case side2 => exact HC0.out); rintro e w4 ⟨rfl, hb⟩; (first | refine ⟨_, rfl, ?_⟩ | skip); replace HB := bA (bS hb); (try clear hb)))
 go_ret
 exact bF
/-! ### point_right: function 85 -/
def point_right.f (k : Nat) (l0 : List (S41)) : Option (Bool) := (slices_ContainsFunc_Point_F_point_right_1.f k l0).bind fun t154 => (some (!t154))
theorem point_right.mono : ∀ a0 k, LeO (point_right.f k a0) (point_right.f (k + 1) a0) := by
 intro a0 k
 unfold point_right.f
 have m0_ := @slices_ContainsFunc_Point_F_point_right_1.mono
 exact bMo
set_option maxHeartbeats 8000000 in
set_option maxRecDepth 100000 in
theorem point_right.calls (k : Nat) (A0 : Option Addr) (c0 : Nat) (l0 : List (S41)) (r : Bool) (w : World) (hr0 : Kd.C k41 w A0 l0.length l0) (hc0 : l0.length ≤ c0) (h : point_right.f k l0 = some r) :
  Calls Try.prog 85 #[.slice A0 l0.length c0] w fun e w' => e = .returned (.bool r) ∧ Below w.heap.size w w' := by
 have HR0 := bA hr0
 have HC0 := bA hc0
 clear hr0 hc0
 have HB := bA (Below.refl w.heap.size w)
 have H : ((slices_ContainsFunc_Point_F_point_right_1.f k l0).bind fun t154 => (some (!t154))) = some r := h
 clear h
 replace H := Option.bind_eq_some_iff.mp H
 obtain ⟨t154, A20, H⟩ := H
 have A2 := bA A20
 clear A20
 obtain rfl := Option.some.inj H
 go_enter Try.func85, Try.ntmps85
 go_wp2_with (first | ((first | ((with_reducible refine gate_callee (f := 65) rfl ?_); refine bC (some 4) Try.func65 #[.slice A0 l0.length c0, .func (.func 112) #[] #[]] ?_) | go_at_call 65); (with_reducible refine (slices_ContainsFunc_Point_F_point_right_1.calls k _ _ l0  t154 _ ?side1 ?side2 A2.out).mono ?_); (case side1 => repeat (first | exact HR0.out | (with_reducible refine Kd.C_alloc ?_ _) | (with_reducible refine Kd.C_drewN ?_ _) | (with_reducible refine Kd.C_drew ?_))); (case side2 => exact HC0.out); rintro e w3 ⟨rfl, hb⟩; (first | refine ⟨_, rfl, ?_⟩ | skip); replace HB := bA (bS hb); (try clear hb)))
 go_ret
 exact bF
/-! ### bits_Mul64: function 107 -/
def bits_Mul64.f (a0 : Int) (a1 : Int) : Option (Int × Int) := some (IntKind.u64.wrap ((IntKind.u64.wrap ((IntKind.u64.wrap ((a0 / 4294967296) * (a1 / 4294967296))) + ((IntKind.u64.wrap ((IntKind.u64.wrap ((a0 / 4294967296) * (Go.bits .and .u64 a1 4294967295))) + ((IntKind.u64.wrap ((Go.bits .and .u64 a0 4294967295) * (Go.bits .and .u64 a1 4294967295))) / 4294967296))) / 4294967296))) + ((IntKind.u64.wrap ((Go.bits .and .u64 (IntKind.u64.wrap ((IntKind.u64.wrap ((a0 / 4294967296) * (Go.bits .and .u64 a1 4294967295))) + ((IntKind.u64.wrap ((Go.bits .and .u64 a0 4294967295) * (Go.bits .and .u64 a1 4294967295))) / 4294967296))) 4294967295) + (IntKind.u64.wrap ((Go.bits .and .u64 a0 4294967295) * (a1 / 4294967296))))) / 4294967296)), IntKind.u64.wrap (a0 * a1))
set_option maxHeartbeats 8000000 in
set_option maxRecDepth 100000 in
theorem bits_Mul64.calls (a0 : Int) (a1 : Int) (r1 : Int) (r2 : Int) (w : World) (h : bits_Mul64.f a0 a1 = some (r1, r2)) :
  Calls Try.prog 107 #[.int .u64 a0, .int .u64 a1] w fun e w' => e = .returned (.tuple #[.int .u64 r1, .int .u64 r2]) ∧ Drawn0 w w' := by
 have H : (some (IntKind.u64.wrap ((IntKind.u64.wrap ((IntKind.u64.wrap ((a0 / 4294967296) * (a1 / 4294967296))) + ((IntKind.u64.wrap ((IntKind.u64.wrap ((a0 / 4294967296) * (Go.bits .and .u64 a1 4294967295))) + ((IntKind.u64.wrap ((Go.bits .and .u64 a0 4294967295) * (Go.bits .and .u64 a1 4294967295))) / 4294967296))) / 4294967296))) + ((IntKind.u64.wrap ((Go.bits .and .u64 (IntKind.u64.wrap ((IntKind.u64.wrap ((a0 / 4294967296) * (Go.bits .and .u64 a1 4294967295))) + ((IntKind.u64.wrap ((Go.bits .and .u64 a0 4294967295) * (Go.bits .and .u64 a1 4294967295))) / 4294967296))) 4294967295) + (IntKind.u64.wrap ((Go.bits .and .u64 a0 4294967295) * (a1 / 4294967296))))) / 4294967296)), IntKind.u64.wrap (a0 * a1))) = some (r1, r2) := h
 clear h
 simp only [Option.some.injEq, Prod.mk.injEq] at H
 obtain ⟨rfl, rfl⟩ := H
 go_enter Try.func107, Try.ntmps107
 go_wp2
 go_ret2
 exact bD
/-! ### wide_Mul: function 77 -/
def wide_Mul.f (a0 : Int) (a1 : Int) : Option (Int × Int) := (bits_Mul64.f (IntKind.u64.wrap (a0)) (IntKind.u64.wrap (a1))).bind fun bt156 => (if a0 < 0 then (if a1 < 0 then (some (wrap64 (IntKind.u64.wrap ((IntKind.u64.wrap (bt156.1 - (IntKind.u64.wrap (a1)))) - (IntKind.u64.wrap (a0)))), bt156.2)) else (some (wrap64 (IntKind.u64.wrap (bt156.1 - (IntKind.u64.wrap (a1)))), bt156.2))) else (if a1 < 0 then (some (wrap64 (IntKind.u64.wrap (bt156.1 - (IntKind.u64.wrap (a0)))), bt156.2)) else (some (wrap64 (bt156.1), bt156.2))))
set_option maxHeartbeats 8000000 in
set_option maxRecDepth 100000 in
theorem wide_Mul.calls (a0 : Int) (a1 : Int) (r1 : Int) (r2 : Int) (w : World) (h : wide_Mul.f a0 a1 = some (r1, r2)) :
  Calls Try.prog 77 #[.int .i64 a0, .int .i64 a1] w fun e w' => e = .returned (.agg #[.int .i64 r1, .int .u64 r2]) ∧ Below w.heap.size w w' := by
 have hu85 := Try.underlying85
 have HB := bA (Below.refl w.heap.size w)
 have H : ((bits_Mul64.f (IntKind.u64.wrap (a0)) (IntKind.u64.wrap (a1))).bind fun bt156 => (if a0 < 0 then (if a1 < 0 then (some (wrap64 (IntKind.u64.wrap ((IntKind.u64.wrap (bt156.1 - (IntKind.u64.wrap (a1)))) - (IntKind.u64.wrap (a0)))), bt156.2)) else (some (wrap64 (IntKind.u64.wrap (bt156.1 - (IntKind.u64.wrap (a1)))), bt156.2))) else (if a1 < 0 then (some (wrap64 (IntKind.u64.wrap (bt156.1 - (IntKind.u64.wrap (a0)))), bt156.2)) else (some (wrap64 (bt156.1), bt156.2))))) = some (r1, r2) := h
 clear h
 replace H := Option.bind_eq_some_iff.mp H
 obtain ⟨⟨t156, t157⟩, A30, H⟩ := H
 replace H : (if a0 < 0 then (if a1 < 0 then (some (wrap64 (IntKind.u64.wrap ((IntKind.u64.wrap (t156 - (IntKind.u64.wrap (a1)))) - (IntKind.u64.wrap (a0)))), t157)) else (some (wrap64 (IntKind.u64.wrap (t156 - (IntKind.u64.wrap (a1)))), t157))) else (if a1 < 0 then (some (wrap64 (IntKind.u64.wrap (t156 - (IntKind.u64.wrap (a0)))), t157)) else (some (wrap64 (t156), t157)))) = some (r1, r2) := H
 have A3 := bA A30
 clear A30
 by_cases c4 : a0 < 0
 rw [if_pos c4] at H
 have c4b0 : decide (a0 < 0) = true := decide_eq_true c4
 clear c4
 by_cases c5 : a1 < 0
 rw [if_pos c5] at H
 have c5b0 : decide (a1 < 0) = true := decide_eq_true c5
 clear c5
 simp only [Option.some.injEq, Prod.mk.injEq] at H
 obtain ⟨rfl, rfl⟩ := H
 rotate_left
 rw [if_neg c5] at H
 have c5b0 : decide (a1 < 0) = false := decide_eq_false c5
 clear c5
 simp only [Option.some.injEq, Prod.mk.injEq] at H
 obtain ⟨rfl, rfl⟩ := H
 rotate_left
 rw [if_neg c4] at H
 have c4b0 : decide (a0 < 0) = false := decide_eq_false c4
 clear c4
 by_cases c10 : a1 < 0
 rw [if_pos c10] at H
 have c10b0 : decide (a1 < 0) = true := decide_eq_true c10
 clear c10
 simp only [Option.some.injEq, Prod.mk.injEq] at H
 obtain ⟨rfl, rfl⟩ := H
 rotate_left
 rw [if_neg c10] at H
 have c10b0 : decide (a1 < 0) = false := decide_eq_false c10
 clear c10
 simp only [Option.some.injEq, Prod.mk.injEq] at H
 obtain ⟨rfl, rfl⟩ := H
 rotate_left
 all_goals go_enter Try.func77, Try.ntmps77
 all_goals go_wp2_with (first | ((with_reducible refine gate_dst (N := 4) rfl ?_); refine bE (N := 4) (cs := #[.int .i64 0, .int .u64 0]) (t := 85) ?_; intro gb155 hg wz0 hbox hb; have BK155 := bA (hbox); have GW155 := bA (bZ hg); have GE155 := bA (bZ hg); replace HB := bA (bS hb); clear hb hbox hg) | ((first | ((with_reducible refine gate_callee (f := 107) rfl ?_); refine bC (some 12) Try.func107 #[.int .u64 (IntKind.u64.wrap (a0)), .int .u64 (IntKind.u64.wrap (a1))] ?_) | go_at_call 107); (with_reducible refine (bits_Mul64.calls (IntKind.u64.wrap (a0)) (IntKind.u64.wrap (a1)) t156 t157 _ A3.out).mono ?_); rintro e w' ⟨rfl, ⟨nd, rfl⟩⟩; (first | refine ⟨_, rfl, ?_⟩ | skip); (try (rw [drewN_self wz0]; generalize hq_ : World.drewN wz0 _ = wz0; have n0_ : Aside0 (wz0.heap[gb155]? = some (.cells #[.int .i64 0, .int .u64 0] 85 (0, 0))) := ⟨by rw [← hq_]; exact (bP BK155)⟩; have n1_ : Aside0 (Below w.heap.size w wz0) := ⟨by rw [← hq_]; exact bX⟩; clear BK155 HB hq_; have BK155 := n0_; have HB := n1_; clear n0_ n1_)); obtain ⟨hz1, hz2, hz3, hz4⟩ := bc2 BK155))
 ·refine bodyPost_ret (results_cell_row rfl _ _ gb155 85 #[.int .i64 (wrap64 (IntKind.u64.wrap ((IntKind.u64.wrap (t156 - (IntKind.u64.wrap (a1)))) - (IntKind.u64.wrap (a0))))), .int .u64 t157] (0, 0) _ rfl (by (with_reducible repeat (first | refine blk_drewN ?_ _ | refine blk_drew ?_ | refine blk_alloc ?_ _)); refine blk_put (cs := #[.int .i64 (wrap64 (IntKind.u64.wrap ((IntKind.u64.wrap (t156 - (IntKind.u64.wrap (a1)))) - (IntKind.u64.wrap (a0))))), .int .u64 0]) ?_ 1 _ rfl; (with_reducible repeat (first | refine blk_drewN ?_ _ | refine blk_drew ?_ | refine blk_alloc ?_ _)); refine blk_put (cs := #[.int .i64 0, .int .u64 0]) ?_ 0 _ rfl; (with_reducible repeat (first | refine blk_drewN ?_ _ | refine blk_drew ?_ | refine blk_alloc ?_ _)); exact BK155.out) Try.underlying85 rfl (by kernel_rfl)) rfl ?_
  exact bF
 ·refine bodyPost_ret (results_cell_row rfl _ _ gb155 85 #[.int .i64 (wrap64 (IntKind.u64.wrap (t156 - (IntKind.u64.wrap (a1))))), .int .u64 t157] (0, 0) _ rfl (by (with_reducible repeat (first | refine blk_drewN ?_ _ | refine blk_drew ?_ | refine blk_alloc ?_ _)); refine blk_put (cs := #[.int .i64 (wrap64 (IntKind.u64.wrap (t156 - (IntKind.u64.wrap (a1))))), .int .u64 0]) ?_ 1 _ rfl; (with_reducible repeat (first | refine blk_drewN ?_ _ | refine blk_drew ?_ | refine blk_alloc ?_ _)); refine blk_put (cs := #[.int .i64 0, .int .u64 0]) ?_ 0 _ rfl; (with_reducible repeat (first | refine blk_drewN ?_ _ | refine blk_drew ?_ | refine blk_alloc ?_ _)); exact BK155.out) Try.underlying85 rfl (by kernel_rfl)) rfl ?_
  exact bF
 ·refine bodyPost_ret (results_cell_row rfl _ _ gb155 85 #[.int .i64 (wrap64 (IntKind.u64.wrap (t156 - (IntKind.u64.wrap (a0))))), .int .u64 t157] (0, 0) _ rfl (by (with_reducible repeat (first | refine blk_drewN ?_ _ | refine blk_drew ?_ | refine blk_alloc ?_ _)); refine blk_put (cs := #[.int .i64 (wrap64 (IntKind.u64.wrap (t156 - (IntKind.u64.wrap (a0))))), .int .u64 0]) ?_ 1 _ rfl; (with_reducible repeat (first | refine blk_drewN ?_ _ | refine blk_drew ?_ | refine blk_alloc ?_ _)); refine blk_put (cs := #[.int .i64 0, .int .u64 0]) ?_ 0 _ rfl; (with_reducible repeat (first | refine blk_drewN ?_ _ | refine blk_drew ?_ | refine blk_alloc ?_ _)); exact BK155.out) Try.underlying85 rfl (by kernel_rfl)) rfl ?_
  exact bF
 refine bodyPost_ret (results_cell_row rfl _ _ gb155 85 #[.int .i64 (wrap64 (t156)), .int .u64 t157] (0, 0) _ rfl (by (with_reducible repeat (first | refine blk_drewN ?_ _ | refine blk_drew ?_ | refine blk_alloc ?_ _)); refine blk_put (cs := #[.int .i64 (wrap64 (t156)), .int .u64 0]) ?_ 1 _ rfl; (with_reducible repeat (first | refine blk_drewN ?_ _ | refine blk_drew ?_ | refine blk_alloc ?_ _)); refine blk_put (cs := #[.int .i64 0, .int .u64 0]) ?_ 0 _ rfl; (with_reducible repeat (first | refine blk_drewN ?_ _ | refine blk_drew ?_ | refine blk_alloc ?_ _)); exact BK155.out) Try.underlying85 rfl (by kernel_rfl)) rfl ?_
 exact bF
/-! ### cmp_isNaN_int64: function 122 -/
def cmp_isNaN_int64.f (a0 : Int) : Option (Bool) := some (a0 != a0)
set_option maxHeartbeats 8000000 in
set_option maxRecDepth 100000 in
theorem cmp_isNaN_int64.calls (a0 : Int) (r : Bool) (w : World) (h : cmp_isNaN_int64.f a0 = some r) :
  Calls Try.prog 122 #[.int .i64 a0] w fun e w' => e = .returned (.bool r) ∧ Drawn0 w w' := by
 have H : (some (a0 != a0)) = some r := h
 clear h
 obtain rfl := Option.some.inj H
 go_enter Try.func122, Try.ntmps122
 go_wp2
 go_ret
 exact bD
/-! ### cmp_Compare_int64: function 116 -/
def cmp_Compare_int64.f (a0 : Int) (a1 : Int) : Option (Int) := (cmp_isNaN_int64.f a0).bind fun t158 => ((cmp_isNaN_int64.f a1).bind fun t159 => (if t158 = true then (if t159 = true then (some 0) else (some (-1))) else (if t159 = true then (some 1) else (if a0 < a1 then (some (-1)) else (if a0 > a1 then (some 1) else (some 0))))))
set_option maxHeartbeats 8000000 in
set_option maxRecDepth 100000 in
theorem cmp_Compare_int64.calls (a0 : Int) (a1 : Int) (r : Int) (w : World) (h : cmp_Compare_int64.f a0 a1 = some r) :
  Calls Try.prog 116 #[.int .i64 a0, .int .i64 a1] w fun e w' => e = .returned (.int .i64 r) ∧ Drawn0 w w' := by
 have H : ((cmp_isNaN_int64.f a0).bind fun t158 => ((cmp_isNaN_int64.f a1).bind fun t159 => (if t158 = true then (if t159 = true then (some 0) else (some (-1))) else (if t159 = true then (some 1) else (if a0 < a1 then (some (-1)) else (if a0 > a1 then (some 1) else (some 0))))))) = some r := h
 clear h
 replace H := Option.bind_eq_some_iff.mp H
 obtain ⟨t158, A30, H⟩ := H
 have A3 := bA A30
 clear A30
 replace H := Option.bind_eq_some_iff.mp H
 obtain ⟨t159, A40, H⟩ := H
 have A4 := bA A40
 clear A40
 by_cases c5 : t158 = true
 subst c5
 rw [if_pos rfl] at H
 by_cases c6 : t159 = true
 subst c6
 rw [if_pos rfl] at H
 obtain rfl := Option.some.inj H
 rotate_left
 replace c6 := Bool.eq_false_iff.mpr c6
 subst c6
 rw [if_neg bn] at H
 obtain rfl := Option.some.inj H
 rotate_left
 replace c5 := Bool.eq_false_iff.mpr c5
 subst c5
 rw [if_neg bn] at H
 by_cases c7 : t159 = true
 subst c7
 rw [if_pos rfl] at H
 obtain rfl := Option.some.inj H
 rotate_left
 replace c7 := Bool.eq_false_iff.mpr c7
 subst c7
 rw [if_neg bn] at H
 by_cases c8 : a0 < a1
 rw [if_pos c8] at H
 have c8b0 : decide (a0 < a1) = true := decide_eq_true c8
 clear c8
 obtain rfl := Option.some.inj H
 rotate_left
 rw [if_neg c8] at H
 have c8b0 : decide (a0 < a1) = false := decide_eq_false c8
 clear c8
 by_cases c9 : a0 > a1
 rw [if_pos c9] at H
 have c9b0 : decide (a1 < a0) = true := decide_eq_true c9
 clear c9
 obtain rfl := Option.some.inj H
 rotate_left
 rw [if_neg c9] at H
 have c9b0 : decide (a1 < a0) = false := decide_eq_false c9
 clear c9
 obtain rfl := Option.some.inj H
 rotate_left
 all_goals go_enter Try.func116, Try.ntmps116
 all_goals go_wp2_with (first | ((first | ((with_reducible refine gate_callee (f := 122) rfl ?_); refine bC (some 8) Try.func122 #[.int .i64 a0] ?_) | go_at_call 122); (with_reducible refine (cmp_isNaN_int64.calls a0 true _ A3.out).mono ?_); rintro e w' ⟨rfl, ⟨nd, rfl⟩⟩; (first | refine ⟨_, rfl, ?_⟩ | skip)) | ((first | ((with_reducible refine gate_callee (f := 122) rfl ?_); refine bC (some 10) Try.func122 #[.int .i64 a1] ?_) | go_at_call 122); (with_reducible refine (cmp_isNaN_int64.calls a1 true _ A4.out).mono ?_); rintro e w' ⟨rfl, ⟨nd, rfl⟩⟩; (first | refine ⟨_, rfl, ?_⟩ | skip)) | ((first | ((with_reducible refine gate_callee (f := 122) rfl ?_); refine bC (some 10) Try.func122 #[.int .i64 a1] ?_) | go_at_call 122); (with_reducible refine (cmp_isNaN_int64.calls a1 false _ A4.out).mono ?_); rintro e w' ⟨rfl, ⟨nd, rfl⟩⟩; (first | refine ⟨_, rfl, ?_⟩ | skip)) | ((first | ((with_reducible refine gate_callee (f := 122) rfl ?_); refine bC (some 8) Try.func122 #[.int .i64 a0] ?_) | go_at_call 122); (with_reducible refine (cmp_isNaN_int64.calls a0 false _ A3.out).mono ?_); rintro e w' ⟨rfl, ⟨nd, rfl⟩⟩; (first | refine ⟨_, rfl, ?_⟩ | skip)))
 all_goals (go_ret; exact bD)
/-! ### cmp_isNaN_uint64: function 123 -/
def cmp_isNaN_uint64.f (a0 : Int) : Option (Bool) := some (a0 != a0)
set_option maxHeartbeats 8000000 in
set_option maxRecDepth 100000 in
theorem cmp_isNaN_uint64.calls (a0 : Int) (r : Bool) (w : World) (h : cmp_isNaN_uint64.f a0 = some r) :
  Calls Try.prog 123 #[.int .u64 a0] w fun e w' => e = .returned (.bool r) ∧ Drawn0 w w' := by
 have H : (some (a0 != a0)) = some r := h
 clear h
 obtain rfl := Option.some.inj H
 go_enter Try.func123, Try.ntmps123
 go_wp2
 go_ret
 exact bD
/-! ### cmp_Compare_uint64: function 117 -/
def cmp_Compare_uint64.f (a0 : Int) (a1 : Int) : Option (Int) := (cmp_isNaN_uint64.f a0).bind fun t160 => ((cmp_isNaN_uint64.f a1).bind fun t161 => (if t160 = true then (if t161 = true then (some 0) else (some (-1))) else (if t161 = true then (some 1) else (if a0 < a1 then (some (-1)) else (if a0 > a1 then (some 1) else (some 0))))))
set_option maxHeartbeats 8000000 in
set_option maxRecDepth 100000 in
theorem cmp_Compare_uint64.calls (a0 : Int) (a1 : Int) (r : Int) (w : World) (h : cmp_Compare_uint64.f a0 a1 = some r) :
  Calls Try.prog 117 #[.int .u64 a0, .int .u64 a1] w fun e w' => e = .returned (.int .i64 r) ∧ Drawn0 w w' := by
 have H : ((cmp_isNaN_uint64.f a0).bind fun t160 => ((cmp_isNaN_uint64.f a1).bind fun t161 => (if t160 = true then (if t161 = true then (some 0) else (some (-1))) else (if t161 = true then (some 1) else (if a0 < a1 then (some (-1)) else (if a0 > a1 then (some 1) else (some 0))))))) = some r := h
 clear h
 replace H := Option.bind_eq_some_iff.mp H
 obtain ⟨t160, A30, H⟩ := H
 have A3 := bA A30
 clear A30
 replace H := Option.bind_eq_some_iff.mp H
 obtain ⟨t161, A40, H⟩ := H
 have A4 := bA A40
 clear A40
 by_cases c5 : t160 = true
 subst c5
 rw [if_pos rfl] at H
 by_cases c6 : t161 = true
 subst c6
 rw [if_pos rfl] at H
 obtain rfl := Option.some.inj H
 rotate_left
 replace c6 := Bool.eq_false_iff.mpr c6
 subst c6
 rw [if_neg bn] at H
 obtain rfl := Option.some.inj H
 rotate_left
 replace c5 := Bool.eq_false_iff.mpr c5
 subst c5
 rw [if_neg bn] at H
 by_cases c7 : t161 = true
 subst c7
 rw [if_pos rfl] at H
 obtain rfl := Option.some.inj H
 rotate_left
 replace c7 := Bool.eq_false_iff.mpr c7
 subst c7
 rw [if_neg bn] at H
 by_cases c8 : a0 < a1
 rw [if_pos c8] at H
 have c8b0 : decide (a0 < a1) = true := decide_eq_true c8
 clear c8
 obtain rfl := Option.some.inj H
 rotate_left
 rw [if_neg c8] at H
 have c8b0 : decide (a0 < a1) = false := decide_eq_false c8
 clear c8
 by_cases c9 : a0 > a1
 rw [if_pos c9] at H
 have c9b0 : decide (a1 < a0) = true := decide_eq_true c9
 clear c9
 obtain rfl := Option.some.inj H
 rotate_left
 rw [if_neg c9] at H
 have c9b0 : decide (a1 < a0) = false := decide_eq_false c9
 clear c9
 obtain rfl := Option.some.inj H
 rotate_left
 all_goals go_enter Try.func117, Try.ntmps117
 all_goals go_wp2_with (first | ((first | ((with_reducible refine gate_callee (f := 123) rfl ?_); refine bC (some 8) Try.func123 #[.int .u64 a0] ?_) | go_at_call 123); (with_reducible refine (cmp_isNaN_uint64.calls a0 true _ A3.out).mono ?_); rintro e w' ⟨rfl, ⟨nd, rfl⟩⟩; (first | refine ⟨_, rfl, ?_⟩ | skip)) | ((first | ((with_reducible refine gate_callee (f := 123) rfl ?_); refine bC (some 10) Try.func123 #[.int .u64 a1] ?_) | go_at_call 123); (with_reducible refine (cmp_isNaN_uint64.calls a1 true _ A4.out).mono ?_); rintro e w' ⟨rfl, ⟨nd, rfl⟩⟩; (first | refine ⟨_, rfl, ?_⟩ | skip)) | ((first | ((with_reducible refine gate_callee (f := 123) rfl ?_); refine bC (some 10) Try.func123 #[.int .u64 a1] ?_) | go_at_call 123); (with_reducible refine (cmp_isNaN_uint64.calls a1 false _ A4.out).mono ?_); rintro e w' ⟨rfl, ⟨nd, rfl⟩⟩; (first | refine ⟨_, rfl, ?_⟩ | skip)) | ((first | ((with_reducible refine gate_callee (f := 123) rfl ?_); refine bC (some 8) Try.func123 #[.int .u64 a0] ?_) | go_at_call 123); (with_reducible refine (cmp_isNaN_uint64.calls a0 false _ A3.out).mono ?_); rintro e w' ⟨rfl, ⟨nd, rfl⟩⟩; (first | refine ⟨_, rfl, ?_⟩ | skip)))
 all_goals (go_ret; exact bD)
end Go.Proofs.Ytjmibjmlihmglaa.G
