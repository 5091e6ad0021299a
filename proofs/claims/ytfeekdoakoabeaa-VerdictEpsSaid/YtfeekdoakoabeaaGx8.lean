-- Written by a program of this session out of the translation; Lean checks it.
import Derived.Test.YtfeekdoakoabeaaGx0
import Derived.Test.YtfeekdoakoabeaaGx6
import Derived.Test.YtfeekdoakoabeaaGx7
namespace Go.Proofs.Ytfeekdoakoabeaa.G
open Go.RowKit Go.Proofs.YtfeekdoakoabeaaW.PrintWords Go.Proofs.YtfeekdoakoabeaaW.PrintLast Go.Proofs.YtfeekdoakoabeaaW.PrintMore
attribute [local go_sem] max2_int min2_int max_two min_two max_three min_three max_four min_four   -- for this text's walks alone
set_option linter.unusedVariables false
set_option linter.unusedSimpArgs false

/-! ### verdict_Speed: function 29 -/
mutual
def verdict_Speed.l0 : Nat → Int → Int → Int → List Int → Int → Int → Option (Int)
 | 0, _, _, _, _, _, _ => none
 | k + 1, x1, x2, x7, x22, x23, x24 => if x24 < x23 then (if 0 ≤ x24 then (if x24 < (x22.length : Int) then ((fix_Abs.f (rd x22 x24)).bind fun bt221 => ((fix_Sub.f bt221.1 x2).bind fun bt223 => (if bt221.2 = true then (if bt223.2 = true then (verdict_Speed.j1 k x1 x2 x7 bt221.1 x22 x23 x24 (decide (bt223.1 > x1))) else (verdict_Speed.j1 k x1 x2 x7 bt221.1 x22 x23 x24 true)) else (verdict_Speed.j1 k x1 x2 x7 bt221.1 x22 x23 x24 true)))) else (none)) else (none)) else (some x7)
def verdict_Speed.j1 : Nat → Int → Int → Int → Int → List Int → Int → Int → Bool → Option (Int)
 | 0, _, _, _, _, _, _, _, _ => none
 | k + 1, x1, x2, x7, x10, x22, x23, x24, x49 => if x49 = true then (some (-1)) else ((fix_Add.f x10 x2).bind fun bt225 => (if bt225.2 = true then (if bt225.1 > x1 then (verdict_Speed.l0 k x1 x2 0 x22 x23 (wrap64 (x24 + 1))) else (verdict_Speed.l0 k x1 x2 x7 x22 x23 (wrap64 (x24 + 1)))) else (verdict_Speed.l0 k x1 x2 0 x22 x23 (wrap64 (x24 + 1)))))
end
def verdict_Speed.f (k : Nat) (a0_0 : Int) (a0_1 : Int) (a0_2 : Int) (a0_3 : Int) (a0_4 : Int) (a0_5 : Int) (a0_6 : Int) (a0_7 : Int) (a1 : Int) (a2 : Int) : Option (Int) := (some (([a0_5, a0_6, a0_7] : List Int) : List Int)).bind fun y217 => (verdict_Speed.l0 k a1 a2 1 y217 (y217.length : Int) 0)
theorem verdict_Speed.mono_l : ∀ k, (∀ y0 y1 y2 y3 y4 y5, LeO (verdict_Speed.l0 k y0 y1 y2 y3 y4 y5) (verdict_Speed.l0 (k + 1) y0 y1 y2 y3 y4 y5)) ∧ (∀ y0 y1 y2 y3 y4 y5 y6 y7, LeO (verdict_Speed.j1 k y0 y1 y2 y3 y4 y5 y6 y7) (verdict_Speed.j1 (k + 1) y0 y1 y2 y3 y4 y5 y6 y7))
 | 0 => ⟨fun _ _ _ _ _ _ r h => by simp [verdict_Speed.l0] at h, fun _ _ _ _ _ _ _ _ r h => by simp [verdict_Speed.j1] at h⟩
 | k + 1 => by
  obtain ⟨ih0, ih1⟩ := verdict_Speed.mono_l k
  refine ⟨?_, ?_⟩
  ·intro y0 y1 y2 y3 y4 y5
   unfold verdict_Speed.l0
   exact bMo
  ·intro y0 y1 y2 y3 y4 y5 y6 y7
   unfold verdict_Speed.j1
   exact bMo
theorem verdict_Speed.mono : ∀ a0 a1 a2 a3 a4 a5 a6 a7 a8 a9 k, LeO (verdict_Speed.f k a0 a1 a2 a3 a4 a5 a6 a7 a8 a9) (verdict_Speed.f (k + 1) a0 a1 a2 a3 a4 a5 a6 a7 a8 a9) := by
 intro a0 a1 a2 a3 a4 a5 a6 a7 a8 a9 k
 obtain ⟨ih0, ih1⟩ := verdict_Speed.mono_l k
 unfold verdict_Speed.f
 exact bMo
set_option maxHeartbeats 8000000 in
set_option maxRecDepth 100000 in
theorem verdict_Speed.calls (k : Nat) (a0_0 : Int) (a0_1 : Int) (a0_2 : Int) (a0_3 : Int) (a0_4 : Int) (a0_5 : Int) (a0_6 : Int) (a0_7 : Int) (a1 : Int) (a2 : Int) (r : Int) (w : World) (h : verdict_Speed.f k a0_0 a0_1 a0_2 a0_3 a0_4 a0_5 a0_6 a0_7 a1 a2 = some r) :
  Calls Try.prog 29 #[.agg #[.int .i64 a0_0, .int .i64 a0_1, .int .i64 a0_2, .int .i64 a0_3, .int .i64 a0_4, .int .i64 a0_5, .int .i64 a0_6, .int .i64 a0_7], .int .i64 a1, .int .i64 a2] w fun e w' => e = .returned (.int .i64 r) ∧ Below w.heap.size w w' := by
 have hu23 := Try.underlying23
 have HB := bA (Below.refl w.heap.size w)
 have H : ((some (([a0_5, a0_6, a0_7] : List Int) : List Int)).bind fun y217 => (verdict_Speed.l0 k a1 a2 1 y217 (y217.length : Int) 0)) = some r := h
 clear h
 obtain ⟨y217, hy217⟩ : ∃ y_ : List Int, y_ = (([a0_5, a0_6, a0_7] : List Int)) := ⟨_, rfl⟩
 replace H : (verdict_Speed.l0 k a1 a2 1 y217 (y217.length : Int) 0) = some r := by first | (rw [hy217]; with_reducible exact H) | (have H2_ := (Option.bind_some _ _).symm.trans H; rw [hy217]; with_reducible exact H2_) | (have H2_ := (Option.bind_some _ _).symm.trans H; with_reducible exact H2_) | with_reducible exact H | (rw [hy217]; exact H) | exact H
 have Ny217 := bA hy217
 clear hy217
 have H' := bA H
 clear H
 go_enter Try.func29, Try.ntmps29
 go_wp2_with (first | ((with_reducible refine gate_dst (N := 3) rfl ?_); refine bE (N := 3) (cs := #[.int .i64 a0_0, .int .i64 a0_1, .int .i64 a0_2, .int .i64 a0_3, .int .i64 a0_4, .int .i64 a0_5, .int .i64 a0_6, .int .i64 a0_7]) (t := 23) ?_; intro gb216 hg w4 hbox hb; have BK216 := bA (hbox); have GW216 := bA (bZ hg); have GE216 := bA (bZ hg); replace HB := bA (bS hb); clear hb hbox hg; obtain ⟨hcz5_0, hcz5_1, hcz5_2, hcz5_3, hcz5_4, hcz5_5, hcz5_6, hcz5_7, hfz5_0, hfz5_1, hfz5_2, hfz5_3, hfz5_4, hfz5_5, hfz5_6, hfz5_7⟩ := bc8 BK216) | ((with_reducible refine gate_dst (N := 22) rfl ?_); refine Kd.R_lit (Kd.int .i64) _ 2 ?hg (N := 22) ?hd (xs := ([a0_5, a0_6, a0_7] : List Int)) (inner := [.int .i64 a0_5, .int .i64 a0_6, .int .i64 a0_7]) (ok := fun _ => True) (okp := fun _ => True) ?hr ?hp (fun _ hk => hk) trivial (Below.refl _ _) (Nat.le_refl _) (by simp) ?_; (case hd => rfl); (case hg => rfl); (case hr => first | (go_simp; done) | (go_simp; rfl)); (case hp => exact (Reps.one (show Kd.M (Kd.int .i64) _ _ _ a0_5 [.int .i64 a0_5] from rfl) (Reps.one (show Kd.M (Kd.int .i64) _ _ _ a0_6 [.int .i64 a0_6] from rfl) (Reps.one (show Kd.M (Kd.int .i64) _ _ _ a0_7 [.int .i64 a0_7] from rfl) (Reps.none _ _))))); intro v218 w6 ho7 hb hg_ hnew_; clear hg_ hnew_; (first | rw [← Ny217.out] at ho7 | (simp only [Int.reduceToNat] at ho7; rw [← Ny217.out] at ho7)); have HO219 := bA (Kd.R_lower ho7 bY); replace BK216 := bA (bB BK216 hb); replace HB := bA (bS hb); clear hb ho7; obtain ⟨Ao8, co8, eo8⟩ := Kd.R_slice HO219.out; subst eo8))
 go_loopg [7, 24] k (fun kq v7 v24 w' => ∃ (x7_1 : Int) (x24_1 : Int), v7 = .int .i64 x7_1 ∧ v24 = .int .i64 x24_1 ∧ Aside0 (verdict_Speed.l0 kq a1 a2 x7_1 y217 (y217.length : Int) x24_1 = some r) ∧ Aside0 (kq ≤ k) ∧ Aside0 (Kd.R (Kd.int .i64) 2 w' w.heap.size (fun _ => True) (.slice Ao8 y217.length co8) y217) ∧ Aside0 (w'.heap[gb216]? = some (.cells #[.int .i64 a0_0, .int .i64 a0_1, .int .i64 a0_2, .int .i64 a0_3, .int .i64 a0_4, .int .i64 a0_5, .int .i64 a0_6, .int .i64 a0_7] 23 (0, 0))) ∧ Aside0 (Below w.heap.size w w'))
 case atStart => exact ⟨(1), (0), bs, bs, H', ⟨Nat.le_refl _⟩, ⟨bRr HO219⟩, ⟨by (with_reducible repeat (first | refine blk_drewN ?_ _ | refine blk_drew ?_ | refine blk_alloc ?_ _)); exact BK216.out⟩, ⟨bX⟩⟩
 clear H'
 try clear c2
 try clear p2
 try clear hcz5_0
 try clear hcz5_1
 try clear hcz5_2
 try clear hcz5_3
 try clear hcz5_4
 try clear hcz5_5
 try clear hcz5_6
 try clear hcz5_7
 try clear hfz5_0
 try clear hfz5_1
 try clear hfz5_2
 try clear hfz5_3
 try clear hfz5_4
 try clear hfz5_5
 try clear hfz5_6
 try clear hfz5_7
 obtain ⟨x7_1, x24_1, rfl, rfl, HA, HK1, HO_22, BK216, HB⟩ := hrel
 cases gk with
 | zero => exact absurd HA.out (by simp [verdict_Speed.l0])
 | succ k1 =>
  have H := HA.out
  clear HA
  simp only [verdict_Speed.l0] at H
  by_cases c9 : x24_1 < (y217.length : Int)
  rotate_left
  ·rw [if_neg c9] at H
   have c9b0 : decide (x24_1 < (y217.length : Int)) = false := decide_eq_false c9
   clear c9
   obtain rfl := Option.some.inj H
   go_wp2
   go_ret
   exact bF
  rw [if_pos c9] at H
  have c9b0 : decide (x24_1 < (y217.length : Int)) = true := decide_eq_true c9
  clear c9
  by_cases c10 : 0 ≤ x24_1
  rotate_left
  ·rw [if_neg c10] at H
   exact absurd H (by simp)
  rw [if_pos c10] at H
  have c10b0 : decide (0 ≤ x24_1) = true := decide_eq_true c10
  clear c10
  by_cases c11 : x24_1 < (y217.length : Int)
  rotate_left
  ·rw [if_neg c11] at H
   exact absurd H (by simp)
  rw [if_pos c11] at H
  have c11b0 : decide (x24_1 < (y217.length : Int)) = true := decide_eq_true c11
  clear c11
  replace H := Option.bind_eq_some_iff.mp H
  obtain ⟨⟨t221, t222⟩, A120, H⟩ := H
  replace H : ((fix_Sub.f t221 a2).bind fun bt223 => (if t222 = true then (if bt223.2 = true then (verdict_Speed.j1 k1 a1 a2 x7_1 t221 y217 (y217.length : Int) x24_1 (decide (bt223.1 > a1))) else (verdict_Speed.j1 k1 a1 a2 x7_1 t221 y217 (y217.length : Int) x24_1 true)) else (verdict_Speed.j1 k1 a1 a2 x7_1 t221 y217 (y217.length : Int) x24_1 true))) = some r := H
  have A12 := bA A120
  clear A120
  replace H := Option.bind_eq_some_iff.mp H
  obtain ⟨⟨t223, t224⟩, A130, H⟩ := H
  replace H : (if t222 = true then (if t224 = true then (verdict_Speed.j1 k1 a1 a2 x7_1 t221 y217 (y217.length : Int) x24_1 (decide (t223 > a1))) else (verdict_Speed.j1 k1 a1 a2 x7_1 t221 y217 (y217.length : Int) x24_1 true)) else (verdict_Speed.j1 k1 a1 a2 x7_1 t221 y217 (y217.length : Int) x24_1 true)) = some r := H
  have A13 := bA A130
  clear A130
  have HC14 := bA H
  clear H
  have p220 : 0 ≤ (x24_1 : Int) := bo
  have q220 : x24_1 < (y217.length : Int) := bo
  obtain ⟨ad220, e220, hx220_0⟩ := Kd.at_int (Kd.R_reads' HO_22.out).2.2 x24_1 p220 q220
  cases e220
  replace p220 := eq_true p220
  replace q220 := eq_true q220
  go_upto_region 7 with (first | ((first | ((with_reducible refine gate_callee (f := 45) rfl ?_); refine bC (some 30) Try.func45 #[.int .i64 (rd y217 x24_1)] ?_) | go_at_call 45); (with_reducible refine (fix_Abs.calls (rd y217 x24_1) t221 t222 _ A12.out).mono ?_); rintro e w15 ⟨rfl, hb⟩; (first | refine ⟨_, rfl, ?_⟩ | skip); have n0_ := bA (Kd.R_below (bRr HO_22) hb); have n1_ := bA (bB BK216 hb); have n2_ := bA (bS hb); clear HO_22; clear BK216; clear HB; have HO_22 := n0_; have BK216 := n1_; have HB := n2_; clear n0_ n1_ n2_; (try clear hb)) | ((first | ((with_reducible refine gate_callee (f := 46) rfl ?_); refine bC (some 36) Try.func46 #[.int .i64 t221, .int .i64 a2] ?_) | go_at_call 46); (with_reducible refine (fix_Sub.calls t221 a2 t223 t224 _ A13.out).mono ?_); rintro e w16 ⟨rfl, hb⟩; (first | refine ⟨_, rfl, ?_⟩ | skip); have n0_ := bA (Kd.R_below (bRr HO_22) hb); have n1_ := bA (bB BK216 hb); have n2_ := bA (bS hb); clear HO_22; clear BK216; clear HB; have HO_22 := n0_; have BK216 := n1_; have HB := n2_; clear n0_ n1_ n2_; (try clear hb)))
  (try simp only [Act.put, List.setIfInBounds_toArray, List.set_cons_zero, List.set_cons_succ])
  go_cut [49] (fun v49 wc => ∃ (kq : Nat) (x49_13 : Bool), v49 = .bool x49_13 ∧ Aside0 (verdict_Speed.j1 kq a1 a2 x7_1 t221 y217 (y217.length : Int) x24_1 x49_13 = some r) ∧ Aside0 (kq ≤ k1) ∧ Aside0 (Kd.R (Kd.int .i64) 2 wc w.heap.size (fun _ => True) (.slice (some ad220) y217.length co8) y217) ∧ Aside0 (wc.heap[gb216]? = some (.cells #[.int .i64 a0_0, .int .i64 a0_1, .int .i64 a0_2, .int .i64 a0_3, .int .i64 a0_4, .int .i64 a0_5, .int .i64 a0_6, .int .i64 a0_7] 23 (0, 0))) ∧ Aside0 (Below w.heap.size w wc))
  case first =>
   have H := HC14.out
   clear HC14
   by_cases c17 : t222 = true
   subst c17
   rw [if_pos rfl] at H
   by_cases c18 : t224 = true
   subst c18
   rw [if_pos rfl] at H
   have H' := bA H
   clear H
   rotate_left
   replace c18 := Bool.eq_false_iff.mpr c18
   subst c18
   rw [if_neg bn] at H
   have H' := bA H
   clear H
   rotate_left
   replace c17 := Bool.eq_false_iff.mpr c17
   subst c17
   rw [if_neg bn] at H
   have H' := bA H
   clear H
   rotate_left
   all_goals go_wp2
   ·go_meet
    case rel => exact ⟨_, (decide (t223 > a1)), bs, H', ⟨by have := HK1.out; first | omega | exact Nat.le_refl _⟩, ⟨bRr HO_22⟩, ⟨by (with_reducible repeat (first | refine blk_drewN ?_ _ | refine blk_drew ?_ | refine blk_alloc ?_ _)); exact BK216.out⟩, ⟨bX⟩⟩
   ·go_meet
    case rel => exact ⟨_, (true), bs, H', ⟨by have := HK1.out; first | omega | exact Nat.le_refl _⟩, ⟨bRr HO_22⟩, ⟨by (with_reducible repeat (first | refine blk_drewN ?_ _ | refine blk_drew ?_ | refine blk_alloc ?_ _)); exact BK216.out⟩, ⟨bX⟩⟩
   go_meet
   case rel => exact ⟨_, (true), bs, H', ⟨by have := HK1.out; first | omega | exact Nat.le_refl _⟩, ⟨bRr HO_22⟩, ⟨by (with_reducible repeat (first | refine blk_drewN ?_ _ | refine blk_drew ?_ | refine blk_alloc ?_ _)); exact BK216.out⟩, ⟨bX⟩⟩
  clear HC14
  try clear c1
  try clear c2
  try clear p2
  try clear q2
  try clear hx2
  try clear c4
  try clear c9
  try clear c9b0
  try clear c10
  try clear c10b0
  try clear c11
  try clear c11b0
  try clear c17
  try clear c18
  try clear hcz5_0
  try clear hcz5_1
  try clear hcz5_2
  try clear hcz5_3
  try clear hcz5_4
  try clear hcz5_5
  try clear hcz5_6
  try clear hcz5_7
  try clear hfz5_0
  try clear hfz5_1
  try clear hfz5_2
  try clear hfz5_3
  try clear hfz5_4
  try clear hfz5_5
  try clear hfz5_6
  try clear hfz5_7
  try clear hx220_0
  try clear p2
  try clear p220
  try clear q220
  obtain ⟨kq, x49_13, rfl, HA, HJ13, HO_22, BK216, HB⟩ := hcut
  cases kq with
  | zero => exact absurd HA.out (by simp [verdict_Speed.j1])
  | succ kj13 =>
   have H := HA.out
   clear HA
   simp only [verdict_Speed.j1] at H
   by_cases c19 : x49_13 = true
   subst c19
   rw [if_pos rfl] at H
   obtain rfl := Option.some.inj H
   rotate_left
   replace c19 := Bool.eq_false_iff.mpr c19
   subst c19
   rw [if_neg bn] at H
   replace H := Option.bind_eq_some_iff.mp H
   obtain ⟨⟨t225, t226⟩, A200, H⟩ := H
   replace H : (if t226 = true then (if t225 > a1 then (verdict_Speed.l0 kj13 a1 a2 0 y217 (y217.length : Int) (wrap64 (x24_1 + 1))) else (verdict_Speed.l0 kj13 a1 a2 x7_1 y217 (y217.length : Int) (wrap64 (x24_1 + 1)))) else (verdict_Speed.l0 kj13 a1 a2 0 y217 (y217.length : Int) (wrap64 (x24_1 + 1)))) = some r := H
   have A20 := bA A200
   clear A200
   by_cases c21 : t226 = true
   subst c21
   rw [if_pos rfl] at H
   by_cases c22 : t225 > a1
   rw [if_pos c22] at H
   have c22b0 : decide (a1 < t225) = true := decide_eq_true c22
   clear c22
   have H' := bA H
   clear H
   rotate_left
   rw [if_neg c22] at H
   have c22b0 : decide (a1 < t225) = false := decide_eq_false c22
   clear c22
   have H' := bA H
   clear H
   rotate_left
   replace c21 := Bool.eq_false_iff.mpr c21
   subst c21
   rw [if_neg bn] at H
   have H' := bA H
   clear H
   rotate_left
   all_goals go_wp2_with (first | ((first | ((with_reducible refine gate_callee (f := 47) rfl ?_); refine bC (some 53) Try.func47 #[.int .i64 t221, .int .i64 a2] ?_) | go_at_call 47); (with_reducible refine (fix_Add.calls t221 a2 t225 true _ A20.out).mono ?_); rintro e wz0 ⟨rfl, hb⟩; (first | refine ⟨_, rfl, ?_⟩ | skip); replace HO_22 := bA (Kd.R_below (bRr HO_22) hb); replace BK216 := bA (bB BK216 hb); replace HB := bA (bS hb); (try clear hb)) | ((first | ((with_reducible refine gate_callee (f := 47) rfl ?_); refine bC (some 53) Try.func47 #[.int .i64 t221, .int .i64 a2] ?_) | go_at_call 47); (with_reducible refine (fix_Add.calls t221 a2 t225 false _ A20.out).mono ?_); rintro e wz0 ⟨rfl, hb⟩; (first | refine ⟨_, rfl, ?_⟩ | skip); replace HO_22 := bA (Kd.R_below (bRr HO_22) hb); replace BK216 := bA (bB BK216 hb); replace HB := bA (bS hb); (try clear hb)))
   ·go_ret
    exact bF
   ·go_roundg kj13
    case measure => have := HK1.out; have := HJ13.out; omega
    case rel => exact ⟨(0), (wrap64 (x24_1 + 1)), bs, bs, H', ⟨by have := HK1.out; have := HJ13.out; omega⟩, ⟨bRr HO_22⟩, ⟨by (with_reducible repeat (first | refine blk_drewN ?_ _ | refine blk_drew ?_ | refine blk_alloc ?_ _)); exact BK216.out⟩, ⟨bX⟩⟩
   ·go_roundg kj13
    case measure => have := HK1.out; have := HJ13.out; omega
    case rel => exact ⟨(x7_1), (wrap64 (x24_1 + 1)), bs, bs, H', ⟨by have := HK1.out; have := HJ13.out; omega⟩, ⟨bRr HO_22⟩, ⟨by (with_reducible repeat (first | refine blk_drewN ?_ _ | refine blk_drew ?_ | refine blk_alloc ?_ _)); exact BK216.out⟩, ⟨bX⟩⟩
   go_roundg kj13
   case measure => have := HK1.out; have := HJ13.out; omega
   case rel => exact ⟨(0), (wrap64 (x24_1 + 1)), bs, bs, H', ⟨by have := HK1.out; have := HJ13.out; omega⟩, ⟨bRr HO_22⟩, ⟨by (with_reducible repeat (first | refine blk_drewN ?_ _ | refine blk_drew ?_ | refine blk_alloc ?_ _)); exact BK216.out⟩, ⟨bX⟩⟩
/-! ### poly_Simple_1: function 80 -/
def poly_Simple_1.f (a0_0 : Int) (a0_1 : Int) : Option (Bool) := (point_Right.f a0_0 a0_1).bind fun t228 => (some (!t228))
set_option maxHeartbeats 8000000 in
set_option maxRecDepth 100000 in
theorem poly_Simple_1.calls (a0_0 : Int) (a0_1 : Int) (r : Bool) (w : World) (h : poly_Simple_1.f a0_0 a0_1 = some r) :
  Calls Try.prog 80 #[.agg #[.int .i64 a0_0, .int .i64 a0_1]] w fun e w' => e = .returned (.bool r) ∧ Below w.heap.size w w' := by
 have hu28 := Try.underlying28
 have HB := bA (Below.refl w.heap.size w)
 have H : ((point_Right.f a0_0 a0_1).bind fun t228 => (some (!t228))) = some r := h
 clear h
 replace H := Option.bind_eq_some_iff.mp H
 obtain ⟨t228, A20, H⟩ := H
 have A2 := bA A20
 clear A20
 obtain rfl := Option.some.inj H
 go_enter Try.func80, Try.ntmps80
 go_wp2_with (first | ((with_reducible refine gate_dst (N := 1) rfl ?_); refine bE (N := 1) (cs := #[.int .i64 a0_0, .int .i64 a0_1]) (t := 28) ?_; intro gb227 hg w3 hbox hb; have BK227 := bA (hbox); have GW227 := bA (bZ hg); have GE227 := bA (bZ hg); replace HB := bA (bS hb); clear hb hbox hg; obtain ⟨hcz4_0, hcz4_1, hfz4_0, hfz4_1⟩ := bc2 BK227) | ((first | ((with_reducible refine gate_callee (f := 40) rfl ?_); refine bC (some 4) Try.func40 #[.agg #[.int .i64 a0_0, .int .i64 a0_1]] ?_) | go_at_call 40); (with_reducible refine (point_Right.calls a0_0 a0_1 t228 _ A2.out).mono ?_); rintro e w5 ⟨rfl, hb⟩; (first | refine ⟨_, rfl, ?_⟩ | skip); replace BK227 := bA (bB BK227 hb); replace HB := bA (bS hb); (try clear hb)))
 go_ret
 exact bF
/-! ### slices_IndexFunc_Point_F_poly_Simple_1: function 1000002 -/
def slices_IndexFunc_Point_F_poly_Simple_1.l0 : Nat → List (S28) → Int → Int → Option (Int)
 | 0, _, _, _ => none
 | k + 1, x0, x7, x8 => if x8 < x7 then (if 0 ≤ x8 then (if x8 < (x0.length : Int) then ((poly_Simple_1.f ((rd_T28 x0 x8).f0) ((rd_T28 x0 x8).f1)).bind fun t230 => (if t230 = true then (some x8) else (slices_IndexFunc_Point_F_poly_Simple_1.l0 k x0 x7 (wrap64 (x8 + 1))))) else (none)) else (none)) else (some (-1))
def slices_IndexFunc_Point_F_poly_Simple_1.f (k : Nat) (l0 : List (S28))  : Option (Int) := slices_IndexFunc_Point_F_poly_Simple_1.l0 k l0 (l0.length : Int) 0
theorem slices_IndexFunc_Point_F_poly_Simple_1.mono_l : ∀ k, (∀ y0 y1 y2, LeO (slices_IndexFunc_Point_F_poly_Simple_1.l0 k y0 y1 y2) (slices_IndexFunc_Point_F_poly_Simple_1.l0 (k + 1) y0 y1 y2))
 | 0 => fun _ _ _ r h => by simp [slices_IndexFunc_Point_F_poly_Simple_1.l0] at h
 | k + 1 => by
  have ih0 := slices_IndexFunc_Point_F_poly_Simple_1.mono_l k
  ·intro y0 y1 y2
   unfold slices_IndexFunc_Point_F_poly_Simple_1.l0
   exact bMo
theorem slices_IndexFunc_Point_F_poly_Simple_1.mono : ∀ a0 k, LeO (slices_IndexFunc_Point_F_poly_Simple_1.f k a0) (slices_IndexFunc_Point_F_poly_Simple_1.f (k + 1) a0) := by
 intro a0 k
 have ih0 := slices_IndexFunc_Point_F_poly_Simple_1.mono_l k
 unfold slices_IndexFunc_Point_F_poly_Simple_1.f
 exact bMo
set_option maxHeartbeats 8000000 in
set_option maxRecDepth 100000 in
theorem slices_IndexFunc_Point_F_poly_Simple_1.calls (k : Nat) (A0 : Option Addr) (c0 : Nat) (l0 : List (S28))  (r : Int) (w : World) (hr0 : Kd.C k28 w A0 l0.length l0) (hc0 : l0.length ≤ c0) (h : slices_IndexFunc_Point_F_poly_Simple_1.f k l0 = some r) :
  Calls Try.prog 82 #[.slice A0 l0.length c0, .func (.func 80) #[] #[]] w fun e w' => e = .returned (.int .i64 r) ∧ Below w.heap.size w w' := by
 have hu28 := Try.underlying28
 have HR0 := bA hr0
 have HC0 := bA hc0
 clear hr0 hc0
 have HB := bA (Below.refl w.heap.size w)
 have H : (slices_IndexFunc_Point_F_poly_Simple_1.l0 k l0 (l0.length : Int) 0) = some r := h
 clear h
 have H' := bA H
 clear H
 go_enter Try.func82, Try.ntmps82
 go_wp2
 go_loopg [8] k (fun kq v8 w' => ∃ (x8_1 : Int), v8 = .int .i64 x8_1 ∧ Aside0 (slices_IndexFunc_Point_F_poly_Simple_1.l0 kq l0 (l0.length : Int) x8_1 = some r) ∧ Aside0 (kq ≤ k) ∧ Aside0 (Below w.heap.size w w'))
 case atStart => exact ⟨(0), bs, H', ⟨Nat.le_refl _⟩, ⟨bX⟩⟩
 clear H'
 try clear p2
 obtain ⟨x8_1, rfl, HA, HK1, HB⟩ := hrel
 cases gk with
 | zero => exact absurd HA.out (by simp [slices_IndexFunc_Point_F_poly_Simple_1.l0])
 | succ k1 =>
  have H := HA.out
  clear HA
  simp only [slices_IndexFunc_Point_F_poly_Simple_1.l0] at H
  by_cases c3 : x8_1 < (l0.length : Int)
  rw [if_pos c3] at H
  have c3b0 : decide (x8_1 < (l0.length : Int)) = true := decide_eq_true c3
  clear c3
  by_cases c4 : 0 ≤ x8_1
  rw [if_pos c4] at H
  have c4b0 : decide (0 ≤ x8_1) = true := decide_eq_true c4
  clear c4
  by_cases c5 : x8_1 < (l0.length : Int)
  rw [if_pos c5] at H
  have c5b0 : decide (x8_1 < (l0.length : Int)) = true := decide_eq_true c5
  clear c5
  replace H := Option.bind_eq_some_iff.mp H
  obtain ⟨t230, A60, H⟩ := H
  have A6 := bA A60
  clear A60
  by_cases c7 : t230 = true
  subst c7
  rw [if_pos rfl] at H
  obtain rfl := Option.some.inj H
  have p229 : 0 ≤ (x8_1 : Int) := bo
  have q229 : x8_1 < (l0.length : Int) := bo
  obtain ⟨ad229, e229, hx229_0, hx229_1⟩ := at_T28 HR0.out x8_1 p229 q229
  cases e229
  replace hx229_0 := bK hx229_0
  replace hx229_1 := bK hx229_1
  replace p229 := eq_true p229
  replace q229 := eq_true q229
  rotate_left
  replace c7 := Bool.eq_false_iff.mpr c7
  subst c7
  rw [if_neg bn] at H
  have H' := bA H
  clear H
  have p229 : 0 ≤ (x8_1 : Int) := bo
  have q229 : x8_1 < (l0.length : Int) := bo
  obtain ⟨ad229, e229, hx229_0, hx229_1⟩ := at_T28 HR0.out x8_1 p229 q229
  cases e229
  replace hx229_0 := bK hx229_0
  replace hx229_1 := bK hx229_1
  replace p229 := eq_true p229
  replace q229 := eq_true q229
  rotate_left
  rw [if_neg c5] at H
  exact absurd H (by simp)
  rw [if_neg c4] at H
  exact absurd H (by simp)
  rw [if_neg c3] at H
  have c3b0 : decide (x8_1 < (l0.length : Int)) = false := decide_eq_false c3
  clear c3
  obtain rfl := Option.some.inj H
  rotate_left
  all_goals go_wp2_with (first | (go_at_call 80; (with_reducible refine (poly_Simple_1.calls ((rd_T28 l0 x8_1).f0) ((rd_T28 l0 x8_1).f1) true _ A6.out).mono ?_); rintro e wz0 ⟨rfl, hb⟩; replace HB := bA (bS hb); (try clear hb)) | (go_at_call 80; (with_reducible refine (poly_Simple_1.calls ((rd_T28 l0 x8_1).f0) ((rd_T28 l0 x8_1).f1) false _ A6.out).mono ?_); rintro e wz0 ⟨rfl, hb⟩; replace HB := bA (bS hb); (try clear hb)))
  ·go_ret
   exact bF
  ·go_roundg k1
   case measure => have := HK1.out; omega
   case rel => exact ⟨(wrap64 (x8_1 + 1)), bs, H', ⟨by have := HK1.out; omega⟩, ⟨bX⟩⟩
  go_ret
  exact bF
/-! ### slices_ContainsFunc_Point_F_poly_Simple_1: function 1000001 -/
def slices_ContainsFunc_Point_F_poly_Simple_1.f (k : Nat) (l0 : List (S28))  : Option (Bool) := (slices_IndexFunc_Point_F_poly_Simple_1.f k l0).bind fun t231 => (some (decide (t231 ≥ 0)))
theorem slices_ContainsFunc_Point_F_poly_Simple_1.mono : ∀ a0 k, LeO (slices_ContainsFunc_Point_F_poly_Simple_1.f k a0) (slices_ContainsFunc_Point_F_poly_Simple_1.f (k + 1) a0) := by
 intro a0 k
 unfold slices_ContainsFunc_Point_F_poly_Simple_1.f
 have m0_ := @slices_IndexFunc_Point_F_poly_Simple_1.mono
 exact bMo
set_option maxHeartbeats 8000000 in
set_option maxRecDepth 100000 in
theorem slices_ContainsFunc_Point_F_poly_Simple_1.calls (k : Nat) (A0 : Option Addr) (c0 : Nat) (l0 : List (S28))  (r : Bool) (w : World) (hr0 : Kd.C k28 w A0 l0.length l0) (hc0 : l0.length ≤ c0) (h : slices_ContainsFunc_Point_F_poly_Simple_1.f k l0 = some r) :
  Calls Try.prog 70 #[.slice A0 l0.length c0, .func (.func 80) #[] #[]] w fun e w' => e = .returned (.bool r) ∧ Below w.heap.size w w' := by
 have HR0 := bA hr0
 have HC0 := bA hc0
 clear hr0 hc0
 have HB := bA (Below.refl w.heap.size w)
 have H : ((slices_IndexFunc_Point_F_poly_Simple_1.f k l0).bind fun t231 => (some (decide (t231 ≥ 0)))) = some r := h
 clear h
 replace H := Option.bind_eq_some_iff.mp H
 obtain ⟨t231, A30, H⟩ := H
 have A3 := bA A30
 clear A30
 obtain rfl := Option.some.inj H
 go_enter Try.func70, Try.ntmps70
 go_wp2_with (first | ((first | ((with_reducible refine gate_callee (f := 82) rfl ?_); refine bC (some 7) Try.func82 #[.slice A0 l0.length c0, .func (.func 80) #[] #[]] ?_) | go_at_call 82); (with_reducible refine (slices_IndexFunc_Point_F_poly_Simple_1.calls k _ _ l0  t231 _ ?side1 ?side2 A3.out).mono ?_); (case side1 => repeat (first | exact HR0.out | (with_reducible refine Kd.C_alloc ?_ _) | (with_reducible refine Kd.C_drewN ?_ _) | (with_reducible refine Kd.C_drew ?_))); (case side2 => exact HC0.out); rintro e w4 ⟨rfl, hb⟩; (first | refine ⟨_, rfl, ?_⟩ | skip); replace HB := bA (bS hb); (try clear hb)))
 go_ret
 exact bF
/-! ### poly_edge: function 76 -/
def poly_edge.f (l0 : List (S28)) (a1 : Int) : Option (Int × Int × Int × Int) := if 0 ≤ a1 then (if a1 < (l0.length : Int) then (if (l0.length : Int) = 0 then (none) else (if 0 ≤ (Int.tmod (wrap64 (a1 + 1)) (l0.length : Int)) then (if (Int.tmod (wrap64 (a1 + 1)) (l0.length : Int)) < (l0.length : Int) then (some ((rd_T28 l0 a1).f0, (rd_T28 l0 a1).f1, (rd_T28 l0 (Int.tmod (wrap64 (a1 + 1)) (l0.length : Int))).f0, (rd_T28 l0 (Int.tmod (wrap64 (a1 + 1)) (l0.length : Int))).f1)) else (none)) else (none))) else (none)) else (none)
def poly_edge.T1 : Bool × List (List Nat × List Nat) := (true, [([], []), ([], []), ([0, 1], [0, 1]), ([2], [2]), ([], []), ([], []), ([5], [5]), ([], []), ([7], [7]), ([6, 8], [6, 8]), ([4, 9], [4, 9]), ([10], [10]), ([3, 0, 1, 2, 3], [3]), ([11, 12, 0, 1, 2, 3, 4, 5, 6, 7, 8, 9, 10, 11, 12], [11])])
def poly_edge.B1 : List Nat := [0, 0, 3, 7, 0, 0, 32, 0, 128, 480, 1008, 2032, 15, 8191]
theorem poly_edge.tab1 : rtab .any (opsOf Try.f76 1) = poly_edge.T1 := by kernel_rfl
theorem poly_edge.bits1 : waitsOk poly_edge.T1.2 poly_edge.B1 = true := by kernel_rfl
set_option maxHeartbeats 8000000 in
set_option maxRecDepth 100000 in
theorem poly_edge.calls (A0 : Option Addr) (c0 : Nat) (l0 : List (S28)) (a1 : Int) (r1 : Int) (r2 : Int) (r3 : Int) (r4 : Int) (w : World) (hr0 : Kd.C k28 w A0 l0.length l0) (hc0 : l0.length ≤ c0) (h : poly_edge.f l0 a1 = some (r1, r2, r3, r4)) :
  Calls Try.prog 76 #[.slice A0 l0.length c0, .int .i64 a1] w fun e w' => e = .returned (.tuple #[.agg #[.int .i64 r1, .int .i64 r2], .agg #[.int .i64 r3, .int .i64 r4]]) ∧ Below w.heap.size w w' := by
 have hu28 := Try.underlying28
 have HR0 := bA hr0
 have HC0 := bA hc0
 clear hr0 hc0
 have HB := bA (Below.refl w.heap.size w)
 have H : (if 0 ≤ a1 then (if a1 < (l0.length : Int) then (if (l0.length : Int) = 0 then (none) else (if 0 ≤ (Int.tmod (wrap64 (a1 + 1)) (l0.length : Int)) then (if (Int.tmod (wrap64 (a1 + 1)) (l0.length : Int)) < (l0.length : Int) then (some ((rd_T28 l0 a1).f0, (rd_T28 l0 a1).f1, (rd_T28 l0 (Int.tmod (wrap64 (a1 + 1)) (l0.length : Int))).f0, (rd_T28 l0 (Int.tmod (wrap64 (a1 + 1)) (l0.length : Int))).f1)) else (none)) else (none))) else (none)) else (none)) = some (r1, r2, r3, r4) := h
 clear h
 by_cases c3 : 0 ≤ a1
 rotate_left
 ·rw [if_neg c3] at H
  exact absurd H (by simp)
 rw [if_pos c3] at H
 have c3b0 : decide (0 ≤ a1) = true := decide_eq_true c3
 clear c3
 by_cases c4 : a1 < (l0.length : Int)
 rotate_left
 ·rw [if_neg c4] at H
  exact absurd H (by simp)
 rw [if_pos c4] at H
 have c4b0 : decide (a1 < (l0.length : Int)) = true := decide_eq_true c4
 clear c4
 by_cases c5 : (l0.length : Int) = 0
 ·rw [if_pos c5] at H
  exact absurd H (by simp)
 rw [if_neg c5] at H
 have c5b0 : ((l0.length : Int) == 0) = false := beq_eq_false_iff_ne.mpr c5
 have c5b1 : ((l0.length : Int) != 0) = true := bne_iff_ne.mpr c5
 have c5b2 : ¬ (l0 = []) := fun h_ => c5 (by rw [h_]; rfl)
 obtain ⟨ji6, hji6⟩ : ∃ j_ : Int, (Int.tmod (wrap64 (a1 + 1)) (l0.length : Int)) = j_ := ⟨_, rfl⟩
 replace H : (if 0 ≤ (ji6) then (if (ji6) < (l0.length : Int) then (some ((rd_T28 l0 a1).f0, (rd_T28 l0 a1).f1, (rd_T28 l0 (ji6)).f0, (rd_T28 l0 (ji6)).f1)) else (none)) else (none)) = some (r1, r2, r3, r4) := by first | (rw [hji6] at H; exact H) | (simp only [hji6] at H ⊢; exact H)
 by_cases c7 : 0 ≤ (ji6)
 rotate_left
 ·rw [if_neg c7] at H
  exact absurd H (by simp)
 rw [if_pos c7] at H
 have c7b0 : decide (0 ≤ (ji6)) = true := decide_eq_true c7
 clear c7
 by_cases c8 : (ji6) < (l0.length : Int)
 rotate_left
 ·rw [if_neg c8] at H
  exact absurd H (by simp)
 rw [if_pos c8] at H
 have c8b0 : decide ((ji6) < (l0.length : Int)) = true := decide_eq_true c8
 clear c8
 simp only [Option.some.injEq, Prod.mk.injEq] at H
 obtain ⟨rfl, rfl, rfl, rfl⟩ := H
 go_enter Try.func76, Try.ntmps76
 try go_wp2_with (first | ((with_reducible refine gate_dst (N := 4) rfl ?_); refine bE (N := 4) (cs := #[.int .i64 0, .int .i64 0]) (t := 28) ?_; intro gb232 hg w9 hbox hb; have BK232 := bA (hbox); have GW232 := bA (bZ hg); have GE232 := bA (bZ hg); replace HB := bA (bS hb); clear hb hbox hg) | ((with_reducible refine gate_dst (N := 5) rfl ?_); refine bE (N := 5) (cs := #[.int .i64 0, .int .i64 0]) (t := 28) ?_; intro gb233 hg w10 hbox hb; have BK233 := bA (hbox); have GW233 := bA (bZ hg); have GE233 := bA (bZ hg); have NB232_233 := bA (bL BK232 hg); have NB233_232 := bA (bG BK232 hg); replace BK232 := bA (bB BK232 hb); replace HB := bA (bS hb); clear hb hbox hg))
 replace BK232 := bA (blk_drew BK232.out)
 replace BK233 := bA (blk_drew BK233.out)
 replace HB := bA (below_drew1 HB.out)
 have p234 : 0 ≤ (a1 : Int) := bo
 have q234 : a1 < (l0.length : Int) := bo
 obtain ⟨ad234, e234, hx234_0, hx234_1⟩ := at_T28 HR0.out a1 p234 q234
 have hw234_1 := hx234_1
 have hw234_0 := hx234_0
 cases e234
 replace hx234_0 := bK hx234_0
 replace hx234_1 := bK hx234_1
 replace p234 := eq_true p234
 replace q234 := eq_true q234
 have p235 : 0 ≤ ((ji6) : Int) := bo
 have q235 : (ji6) < (l0.length : Int) := bo
 obtain ⟨ad235, e235, hx235_0, hx235_1⟩ := at_T28 HR0.out (ji6) p235 q235
 have hw235_1 := hx235_1
 have hw235_0 := hx235_0
 obtain rfl : ad234 = ad235 := (by injection e235)
 replace hx235_0 := bK hx235_0
 replace hx235_1 := bK hx235_1
 replace p235 := eq_true p235
 replace q235 := eq_true q235
 refine start_ (n := 14) (S := fun w' => w'.cell? (ad234.add ((a1).toNat * 2)) = some (.int .i64 ((rd_T28 l0 a1).f0)) ∧ w'.cell? ⟨(ad234.add ((a1).toNat * 2)).block, (ad234.add ((a1).toNat * 2)).off + 1, none⟩ = some (.int .i64 ((rd_T28 l0 a1).f1)) ∧ w'.cell? (ad234.add (((ji6)).toNat * 2)) = some (.int .i64 ((rd_T28 l0 (ji6)).f0)) ∧ w'.cell? ⟨(ad234.add (((ji6)).toNat * 2)).block, (ad234.add (((ji6)).toNat * 2)).off + 1, none⟩ = some (.int .i64 ((rd_T28 l0 (ji6)).f1))) (ds := []) #[false,false,false,false,false,false,false,false,false,false,false,false,false,false] (by kernel_rfl) rfl rfl ⟨(bK hw234_0), (bK hw234_1), (bK hw235_0), (bK hw235_1)⟩ (fun hHeld => ?_); refine with_tabW poly_edge.tab1 poly_edge.bits1 (fun HT_ HW_ => ?_)
 generalize w10.drew = w11 at BK232 BK233 HB hx234_0 hx234_1 hx235_0 hx235_1 hHeld ⊢
 refine bU (i := 0) (N := some 6) ?_
 refine bU (i := 1) (N := some 7) ?_
 refine bU (i := 2) (N := some 8) ?_
 refine bU (i := 4) (N := some 10) ?_
 refine bU (i := 5) (N := some 11) ?_
 refine bU (i := 6) (N := some 12) ?_
 refine bU (i := 7) (N := some 13) ?_
 refine bU (i := 8) (N := some 14) ?_
 refine bU (i := 9) (N := some 15) ?_
 refine bU (i := 10) (N := some 16) ?_
 refine bW (i := 3) (N := some 9) hHeld ?_
 refine bW (i := 11) (N := some 17) hHeld ?_
 refine one_ (i := 12) (N := none) #[true,true,true,true,true,true,true,true,true,true,true,true,true,false] rfl rfl (one_of HT_.out (by kernel_rfl)) (by decide) (fun K hK => ?_)
 have hs12 : w11.cell? ⟨gb232, 0, none⟩ = some (.int .i64 0) := bq BK232 0
 have hfs12 := blk_frozen BK232.out 0
 have hns12_1 := NB233_232.out
 have hms12_1 := NB232_233.out
 have hs13 : w11.cell? ⟨gb232, 1, none⟩ = some (.int .i64 0) := bq BK232 1
 have hfs13 := blk_frozen BK232.out 1
 have hns13_1 := NB233_232.out
 have hms13_1 := NB232_233.out
 refine skip_ (w1 := ?_) (by rfl) rfl ?_ ?_
 rotate_left
 ·go_simp
  rfl
 refine hK.out _ _ ⟨((bV hw234_0 GW232).trans (((bV hw234_0 GW232).trans (hHeld.1)))), ((bV hw234_1 GW232).trans (((bV hw234_1 GW232).trans (hHeld.2.1)))), ((bV hw235_0 GW232).trans (((bV hw235_0 GW232).trans (hHeld.2.2.1)))), ((bV hw235_1 GW232).trans (((bV hw235_1 GW232).trans (hHeld.2.2.2))))⟩ (fun hHeld => ?_)
 clear hK K
 refine one_ (i := 13) (N := none) #[true,true,true,true,true,true,true,true,true,true,true,true,true,true] rfl rfl (one_of HT_.out (by kernel_rfl)) (by decide) (fun K hK => ?_)
 have hs14 : w11.cell? ⟨gb233, 0, none⟩ = some (.int .i64 0) := bq BK233 0
 have hfs14 := blk_frozen BK233.out 0
 have hns14_0 := NB232_233.out
 have hms14_0 := NB233_232.out
 have hs15 : w11.cell? ⟨gb233, 1, none⟩ = some (.int .i64 0) := bq BK233 1
 have hfs15 := blk_frozen BK233.out 1
 have hns15_0 := NB232_233.out
 have hms15_0 := NB233_232.out
 refine skip_ (w1 := ?_) (by rfl) rfl ?_ ?_
 rotate_left
 ·go_simp
  rfl
 refine hK.out _ _ ⟨((bV hw234_0 GW233).trans (((bV hw234_0 GW233).trans (hHeld.1)))), ((bV hw234_1 GW233).trans (((bV hw234_1 GW233).trans (hHeld.2.1)))), ((bV hw235_0 GW233).trans (((bV hw235_0 GW233).trans (hHeld.2.2.1)))), ((bV hw235_1 GW233).trans (((bV hw235_1 GW233).trans (hHeld.2.2.2))))⟩ (fun hHeld => ?_)
 clear hK K
 refine done_ (done_of HT_.out (by kernel_rfl)) ?_
 try go_wp2
 refine bodyPost_ret (results_cc rfl _ _ gb232 gb233 28 28 #[.int .i64 ((rd_T28 l0 a1).f0), .int .i64 ((rd_T28 l0 a1).f1)] #[.int .i64 ((rd_T28 l0 (ji6)).f0), .int .i64 ((rd_T28 l0 (ji6)).f1)] (0, 0) (0, 0) _ _ rfl (by (repeat ((with_reducible repeat (first | refine blk_drewN ?_ _ | refine blk_drew ?_ | refine blk_alloc ?_ _)); refine blk_far ?_ NB232_233.out _)); (with_reducible repeat (first | refine blk_drewN ?_ _ | refine blk_drew ?_ | refine blk_alloc ?_ _)); refine blk_put (cs := #[.int .i64 ((rd_T28 l0 a1).f0), .int .i64 0]) ?_ 1 _ rfl; (with_reducible repeat (first | refine blk_drewN ?_ _ | refine blk_drew ?_ | refine blk_alloc ?_ _)); refine blk_put (cs := #[.int .i64 0, .int .i64 0]) ?_ 0 _ rfl; (with_reducible repeat (first | refine blk_drewN ?_ _ | refine blk_drew ?_ | refine blk_alloc ?_ _)); exact BK232.out) Try.underlying28 rfl (by kernel_rfl) rfl (by (with_reducible repeat (first | refine blk_drewN ?_ _ | refine blk_drew ?_ | refine blk_alloc ?_ _)); refine blk_put (cs := #[.int .i64 ((rd_T28 l0 (ji6)).f0), .int .i64 0]) ?_ 1 _ rfl; (with_reducible repeat (first | refine blk_drewN ?_ _ | refine blk_drew ?_ | refine blk_alloc ?_ _)); refine blk_put (cs := #[.int .i64 0, .int .i64 0]) ?_ 0 _ rfl; (repeat ((with_reducible repeat (first | refine blk_drewN ?_ _ | refine blk_drew ?_ | refine blk_alloc ?_ _)); refine blk_far ?_ NB233_232.out _)); (with_reducible repeat (first | refine blk_drewN ?_ _ | refine blk_drew ?_ | refine blk_alloc ?_ _)); exact BK233.out) Try.underlying28 rfl (by kernel_rfl)) rfl ?_
 exact ⟨by first | rfl | (simp [errW_none, errW_some] <;> rfl) | (simp only [← hji6]; first | rfl | (simp [errW_none, errW_some] <;> rfl)) | (simp [*, errW_none, errW_some] <;> rfl), by repeat (first | (with_reducible first | exact HB.out | apply below_alloc | apply pw_below_drewN | apply below_drew1 | refine below_set ?_ GE232.out | refine below_set ?_ GE233.out) | exact HB.out)⟩
/-! ### point_right_1: function 92 -/
def point_right_1.f (a0_0 : Int) (a0_1 : Int) : Option (Bool) := (point_Right.f a0_0 a0_1).bind fun t237 => (some (!t237))
set_option maxHeartbeats 8000000 in
set_option maxRecDepth 100000 in
theorem point_right_1.calls (a0_0 : Int) (a0_1 : Int) (r : Bool) (w : World) (h : point_right_1.f a0_0 a0_1 = some r) :
  Calls Try.prog 92 #[.agg #[.int .i64 a0_0, .int .i64 a0_1]] w fun e w' => e = .returned (.bool r) ∧ Below w.heap.size w w' := by
 have hu28 := Try.underlying28
 have HB := bA (Below.refl w.heap.size w)
 have H : ((point_Right.f a0_0 a0_1).bind fun t237 => (some (!t237))) = some r := h
 clear h
 replace H := Option.bind_eq_some_iff.mp H
 obtain ⟨t237, A20, H⟩ := H
 have A2 := bA A20
 clear A20
 obtain rfl := Option.some.inj H
 go_enter Try.func92, Try.ntmps92
 go_wp2_with (first | ((with_reducible refine gate_dst (N := 1) rfl ?_); refine bE (N := 1) (cs := #[.int .i64 a0_0, .int .i64 a0_1]) (t := 28) ?_; intro gb236 hg w3 hbox hb; have BK236 := bA (hbox); have GW236 := bA (bZ hg); have GE236 := bA (bZ hg); replace HB := bA (bS hb); clear hb hbox hg; obtain ⟨hcz4_0, hcz4_1, hfz4_0, hfz4_1⟩ := bc2 BK236) | ((first | ((with_reducible refine gate_callee (f := 40) rfl ?_); refine bC (some 4) Try.func40 #[.agg #[.int .i64 a0_0, .int .i64 a0_1]] ?_) | go_at_call 40); (with_reducible refine (point_Right.calls a0_0 a0_1 t237 _ A2.out).mono ?_); rintro e w5 ⟨rfl, hb⟩; (first | refine ⟨_, rfl, ?_⟩ | skip); replace BK236 := bA (bB BK236 hb); replace HB := bA (bS hb); (try clear hb)))
 go_ret
 exact bF
/-! ### slices_IndexFunc_Point_F_point_right_1: function 1000004 -/
def slices_IndexFunc_Point_F_point_right_1.l0 : Nat → List (S28) → Int → Int → Option (Int)
 | 0, _, _, _ => none
 | k + 1, x0, x7, x8 => if x8 < x7 then (if 0 ≤ x8 then (if x8 < (x0.length : Int) then ((point_right_1.f ((rd_T28 x0 x8).f0) ((rd_T28 x0 x8).f1)).bind fun t239 => (if t239 = true then (some x8) else (slices_IndexFunc_Point_F_point_right_1.l0 k x0 x7 (wrap64 (x8 + 1))))) else (none)) else (none)) else (some (-1))
def slices_IndexFunc_Point_F_point_right_1.f (k : Nat) (l0 : List (S28))  : Option (Int) := slices_IndexFunc_Point_F_point_right_1.l0 k l0 (l0.length : Int) 0
theorem slices_IndexFunc_Point_F_point_right_1.mono_l : ∀ k, (∀ y0 y1 y2, LeO (slices_IndexFunc_Point_F_point_right_1.l0 k y0 y1 y2) (slices_IndexFunc_Point_F_point_right_1.l0 (k + 1) y0 y1 y2))
 | 0 => fun _ _ _ r h => by simp [slices_IndexFunc_Point_F_point_right_1.l0] at h
 | k + 1 => by
  have ih0 := slices_IndexFunc_Point_F_point_right_1.mono_l k
  ·intro y0 y1 y2
   unfold slices_IndexFunc_Point_F_point_right_1.l0
   exact bMo
theorem slices_IndexFunc_Point_F_point_right_1.mono : ∀ a0 k, LeO (slices_IndexFunc_Point_F_point_right_1.f k a0) (slices_IndexFunc_Point_F_point_right_1.f (k + 1) a0) := by
 intro a0 k
 have ih0 := slices_IndexFunc_Point_F_point_right_1.mono_l k
 unfold slices_IndexFunc_Point_F_point_right_1.f
 exact bMo
set_option maxHeartbeats 8000000 in
set_option maxRecDepth 100000 in
theorem slices_IndexFunc_Point_F_point_right_1.calls (k : Nat) (A0 : Option Addr) (c0 : Nat) (l0 : List (S28))  (r : Int) (w : World) (hr0 : Kd.C k28 w A0 l0.length l0) (hc0 : l0.length ≤ c0) (h : slices_IndexFunc_Point_F_point_right_1.f k l0 = some r) :
  Calls Try.prog 82 #[.slice A0 l0.length c0, .func (.func 92) #[] #[]] w fun e w' => e = .returned (.int .i64 r) ∧ Below w.heap.size w w' := by
 have hu28 := Try.underlying28
 have HR0 := bA hr0
 have HC0 := bA hc0
 clear hr0 hc0
 have HB := bA (Below.refl w.heap.size w)
 have H : (slices_IndexFunc_Point_F_point_right_1.l0 k l0 (l0.length : Int) 0) = some r := h
 clear h
 have H' := bA H
 clear H
 go_enter Try.func82, Try.ntmps82
 go_wp2
 go_loopg [8] k (fun kq v8 w' => ∃ (x8_1 : Int), v8 = .int .i64 x8_1 ∧ Aside0 (slices_IndexFunc_Point_F_point_right_1.l0 kq l0 (l0.length : Int) x8_1 = some r) ∧ Aside0 (kq ≤ k) ∧ Aside0 (Below w.heap.size w w'))
 case atStart => exact ⟨(0), bs, H', ⟨Nat.le_refl _⟩, ⟨bX⟩⟩
 clear H'
 try clear p2
 obtain ⟨x8_1, rfl, HA, HK1, HB⟩ := hrel
 cases gk with
 | zero => exact absurd HA.out (by simp [slices_IndexFunc_Point_F_point_right_1.l0])
 | succ k1 =>
  have H := HA.out
  clear HA
  simp only [slices_IndexFunc_Point_F_point_right_1.l0] at H
  by_cases c3 : x8_1 < (l0.length : Int)
  rw [if_pos c3] at H
  have c3b0 : decide (x8_1 < (l0.length : Int)) = true := decide_eq_true c3
  clear c3
  by_cases c4 : 0 ≤ x8_1
  rw [if_pos c4] at H
  have c4b0 : decide (0 ≤ x8_1) = true := decide_eq_true c4
  clear c4
  by_cases c5 : x8_1 < (l0.length : Int)
  rw [if_pos c5] at H
  have c5b0 : decide (x8_1 < (l0.length : Int)) = true := decide_eq_true c5
  clear c5
  replace H := Option.bind_eq_some_iff.mp H
  obtain ⟨t239, A60, H⟩ := H
  have A6 := bA A60
  clear A60
  by_cases c7 : t239 = true
  subst c7
  rw [if_pos rfl] at H
  obtain rfl := Option.some.inj H
  have p238 : 0 ≤ (x8_1 : Int) := bo
  have q238 : x8_1 < (l0.length : Int) := bo
  obtain ⟨ad238, e238, hx238_0, hx238_1⟩ := at_T28 HR0.out x8_1 p238 q238
  cases e238
  replace hx238_0 := bK hx238_0
  replace hx238_1 := bK hx238_1
  replace p238 := eq_true p238
  replace q238 := eq_true q238
  rotate_left
  replace c7 := Bool.eq_false_iff.mpr c7
  subst c7
  rw [if_neg bn] at H
  have H' := bA H
  clear H
  have p238 : 0 ≤ (x8_1 : Int) := bo
  have q238 : x8_1 < (l0.length : Int) := bo
  obtain ⟨ad238, e238, hx238_0, hx238_1⟩ := at_T28 HR0.out x8_1 p238 q238
  cases e238
  replace hx238_0 := bK hx238_0
  replace hx238_1 := bK hx238_1
  replace p238 := eq_true p238
  replace q238 := eq_true q238
  rotate_left
  rw [if_neg c5] at H
  exact absurd H (by simp)
  rw [if_neg c4] at H
  exact absurd H (by simp)
  rw [if_neg c3] at H
  have c3b0 : decide (x8_1 < (l0.length : Int)) = false := decide_eq_false c3
  clear c3
  obtain rfl := Option.some.inj H
  rotate_left
  all_goals go_wp2_with (first | (go_at_call 92; (with_reducible refine (point_right_1.calls ((rd_T28 l0 x8_1).f0) ((rd_T28 l0 x8_1).f1) true _ A6.out).mono ?_); rintro e wz0 ⟨rfl, hb⟩; replace HB := bA (bS hb); (try clear hb)) | (go_at_call 92; (with_reducible refine (point_right_1.calls ((rd_T28 l0 x8_1).f0) ((rd_T28 l0 x8_1).f1) false _ A6.out).mono ?_); rintro e wz0 ⟨rfl, hb⟩; replace HB := bA (bS hb); (try clear hb)))
  ·go_ret
   exact bF
  ·go_roundg k1
   case measure => have := HK1.out; omega
   case rel => exact ⟨(wrap64 (x8_1 + 1)), bs, H', ⟨by have := HK1.out; omega⟩, ⟨bX⟩⟩
  go_ret
  exact bF
/-! ### slices_ContainsFunc_Point_F_point_right_1: function 1000003 -/
def slices_ContainsFunc_Point_F_point_right_1.f (k : Nat) (l0 : List (S28))  : Option (Bool) := (slices_IndexFunc_Point_F_point_right_1.f k l0).bind fun t240 => (some (decide (t240 ≥ 0)))
theorem slices_ContainsFunc_Point_F_point_right_1.mono : ∀ a0 k, LeO (slices_ContainsFunc_Point_F_point_right_1.f k a0) (slices_ContainsFunc_Point_F_point_right_1.f (k + 1) a0) := by
 intro a0 k
 unfold slices_ContainsFunc_Point_F_point_right_1.f
 have m0_ := @slices_IndexFunc_Point_F_point_right_1.mono
 exact bMo
set_option maxHeartbeats 8000000 in
set_option maxRecDepth 100000 in
theorem slices_ContainsFunc_Point_F_point_right_1.calls (k : Nat) (A0 : Option Addr) (c0 : Nat) (l0 : List (S28))  (r : Bool) (w : World) (hr0 : Kd.C k28 w A0 l0.length l0) (hc0 : l0.length ≤ c0) (h : slices_ContainsFunc_Point_F_point_right_1.f k l0 = some r) :
  Calls Try.prog 70 #[.slice A0 l0.length c0, .func (.func 92) #[] #[]] w fun e w' => e = .returned (.bool r) ∧ Below w.heap.size w w' := by
 have HR0 := bA hr0
 have HC0 := bA hc0
 clear hr0 hc0
 have HB := bA (Below.refl w.heap.size w)
 have H : ((slices_IndexFunc_Point_F_point_right_1.f k l0).bind fun t240 => (some (decide (t240 ≥ 0)))) = some r := h
 clear h
 replace H := Option.bind_eq_some_iff.mp H
 obtain ⟨t240, A30, H⟩ := H
 have A3 := bA A30
 clear A30
 obtain rfl := Option.some.inj H
 go_enter Try.func70, Try.ntmps70
 go_wp2_with (first | ((first | ((with_reducible refine gate_callee (f := 82) rfl ?_); refine bC (some 7) Try.func82 #[.slice A0 l0.length c0, .func (.func 92) #[] #[]] ?_) | go_at_call 82); (with_reducible refine (slices_IndexFunc_Point_F_point_right_1.calls k _ _ l0  t240 _ ?side1 ?side2 A3.out).mono ?_); (case side1 => repeat (first | exact HR0.out | (with_reducible refine Kd.C_alloc ?_ _) | (with_reducible refine Kd.C_drewN ?_ _) | (with_reducible refine Kd.C_drew ?_))); (case side2 => exact HC0.out); rintro e w4 ⟨rfl, hb⟩; (first | refine ⟨_, rfl, ?_⟩ | skip); replace HB := bA (bS hb); (try clear hb)))
 go_ret
 exact bF
end Go.Proofs.Ytfeekdoakoabeaa.G
