-- Written by a program of this session out of the translation; Lean checks it.
import Derived.Test.YtjmibjmlihmglaaGx0
import Derived.Test.YtjmibjmlihmglaaGx15
import Derived.Test.YtjmibjmlihmglaaGx18
import Derived.Test.YtjmibjmlihmglaaGx21
import Derived.Test.YtjmibjmlihmglaaGx23
namespace Go.Proofs.Ytjmibjmlihmglaa.G
open Go.RowKit Go.Proofs.YtjmibjmlihmglaaW.PrintWords Go.Proofs.YtjmibjmlihmglaaW.PrintLast Go.Proofs.YtjmibjmlihmglaaW.PrintMore
attribute [local go_sem] max2_int min2_int max_two min_two max_three min_three max_four min_four   -- for this text's walks alone
set_option linter.unusedVariables false
set_option linter.unusedSimpArgs false

/-! ### apogeeref11_Side: function 33 -/
mutual
def apogeeref11_Side.j0 : Nat → List (S41) → Bool → Int → Int → Option (Int)
 | 0, _, _, _, _ => none
 | k + 1, x0, x16, x561000, x561001 => if x16 = true then (some (-1)) else (apogeeref11_Side.l0 k x0 false 0 x561000 x561001)
def apogeeref11_Side.l0 : Nat → List (S41) → Bool → Int → Int → Int → Option (Int)
 | 0, _, _, _, _, _ => none
 | k + 1, x0, x5, x6, x561000, x561001 => if x6 < (x0.length : Int) then (if 0 ≤ x6 then ((apogeeref11_next.f x0 x6).bind fun bt564 => ((apogeeref10_On.f k x561000 x561001 ((rd_T41 x0 x6).f0) ((rd_T41 x0 x6).f1) bt564.1 bt564.2).bind fun t568 => (apogeeref11_Side.j2 k x0 x5 x6 t568 x561000 x561001 ((rd_T41 x0 x6).f0) ((rd_T41 x0 x6).f1) bt564.1 bt564.2))) else (none)) else (if x5 = true then (some 1) else (some (-1)))
def apogeeref11_Side.j2 : Nat → List (S41) → Bool → Int → Bool → Int → Int → Int → Int → Int → Int → Option (Int)
 | 0, _, _, _, _, _, _, _, _, _, _ => none
 | k + 1, x0, x5, x6, x33, x561000, x561001, x567000, x567001, x568000, x568001 => if x33 = true then (some 0) else (if x567001 > x568001 then (if x568001 ≤ x561001 then (if x567001 > x561001 then ((apogeeref10_Turn.f k x568000 x568001 x567000 x567001 x561000 x561001).bind fun t569 => (if t569 > 0 then (apogeeref11_Side.l0 k x0 (!x5) (wrap64 (x6 + 1)) x561000 x561001) else (apogeeref11_Side.l0 k x0 x5 (wrap64 (x6 + 1)) x561000 x561001))) else (apogeeref11_Side.l0 k x0 x5 (wrap64 (x6 + 1)) x561000 x561001)) else (apogeeref11_Side.l0 k x0 x5 (wrap64 (x6 + 1)) x561000 x561001)) else (if x567001 ≤ x561001 then (if x568001 > x561001 then ((apogeeref10_Turn.f k x567000 x567001 x568000 x568001 x561000 x561001).bind fun t570 => (if t570 > 0 then (apogeeref11_Side.l0 k x0 (!x5) (wrap64 (x6 + 1)) x561000 x561001) else (apogeeref11_Side.l0 k x0 x5 (wrap64 (x6 + 1)) x561000 x561001))) else (apogeeref11_Side.l0 k x0 x5 (wrap64 (x6 + 1)) x561000 x561001)) else (apogeeref11_Side.l0 k x0 x5 (wrap64 (x6 + 1)) x561000 x561001)))
end
def apogeeref11_Side.f (k : Nat) (l0 : List (S41)) (a1_0 : Int) (a1_1 : Int) : Option (Int) := (apogeeref11_Right.f k l0).bind fun t561 => (if t561 = true then ((apogeeref10_Right.f a1_0 a1_1).bind fun t562 => (apogeeref11_Side.j0 k l0 (!t562) a1_0 a1_1)) else (apogeeref11_Side.j0 k l0 true a1_0 a1_1))
theorem apogeeref11_Side.mono_l : ∀ k, (∀ y0 y1 y2 y3, LeO (apogeeref11_Side.j0 k y0 y1 y2 y3) (apogeeref11_Side.j0 (k + 1) y0 y1 y2 y3)) ∧ (∀ y0 y1 y2 y3 y4, LeO (apogeeref11_Side.l0 k y0 y1 y2 y3 y4) (apogeeref11_Side.l0 (k + 1) y0 y1 y2 y3 y4)) ∧ (∀ y0 y1 y2 y3 y4 y5 y6 y7 y8 y9, LeO (apogeeref11_Side.j2 k y0 y1 y2 y3 y4 y5 y6 y7 y8 y9) (apogeeref11_Side.j2 (k + 1) y0 y1 y2 y3 y4 y5 y6 y7 y8 y9))
 | 0 => ⟨fun _ _ _ _ r h => by simp [apogeeref11_Side.j0] at h, fun _ _ _ _ _ r h => by simp [apogeeref11_Side.l0] at h, fun _ _ _ _ _ _ _ _ _ _ r h => by simp [apogeeref11_Side.j2] at h⟩
 | k + 1 => by
  obtain ⟨ih0, ih1, ih2⟩ := apogeeref11_Side.mono_l k
  refine ⟨?_, ?_, ?_⟩
  ·intro y0 y1 y2 y3
   unfold apogeeref11_Side.j0
   repeat' first
   | (with_reducible exact ih0 _ _ _ _)
   | (with_reducible exact ih1 _ _ _ _ _)
   | (with_reducible exact ih2 _ _ _ _ _ _ _ _ _ _)
   | (with_reducible exact apogeeref10_On.mono _ _ _ _ _ _ _)
   | (with_reducible exact apogeeref10_Turn.mono _ _ _ _ _ _ _)
   | (with_reducible exact apogeeref11_Right.mono _ _)
   | (with_reducible exact LeO.refl _)
   | (with_reducible exact LeO.none _)
   | (with_reducible refine LeO.ite ?_ ?_)
   | (with_reducible refine LeO.bind ?_ (fun _ => ?_))
   | exact ih0 _ _ _ _
   | exact ih1 _ _ _ _ _
   | exact ih2 _ _ _ _ _ _ _ _ _ _
   | exact apogeeref10_On.mono _ _ _ _ _ _ _
   | exact apogeeref10_Turn.mono _ _ _ _ _ _ _
   | exact apogeeref11_Right.mono _ _
   | exact LeO.none _
   | refine LeO.ite ?_ ?_
   | refine LeO.bind ?_ (fun _ => ?_)
  ·intro y0 y1 y2 y3 y4
   unfold apogeeref11_Side.l0
   repeat' first
   | (with_reducible exact ih0 _ _ _ _)
   | (with_reducible exact ih1 _ _ _ _ _)
   | (with_reducible exact ih2 _ _ _ _ _ _ _ _ _ _)
   | (with_reducible exact apogeeref10_On.mono _ _ _ _ _ _ _)
   | (with_reducible exact apogeeref10_Turn.mono _ _ _ _ _ _ _)
   | (with_reducible exact apogeeref11_Right.mono _ _)
   | (with_reducible exact LeO.refl _)
   | (with_reducible exact LeO.none _)
   | (with_reducible refine LeO.ite ?_ ?_)
   | (with_reducible refine LeO.bind ?_ (fun _ => ?_))
   | exact ih0 _ _ _ _
   | exact ih1 _ _ _ _ _
   | exact ih2 _ _ _ _ _ _ _ _ _ _
   | exact apogeeref10_On.mono _ _ _ _ _ _ _
   | exact apogeeref10_Turn.mono _ _ _ _ _ _ _
   | exact apogeeref11_Right.mono _ _
   | exact LeO.none _
   | refine LeO.ite ?_ ?_
   | refine LeO.bind ?_ (fun _ => ?_)
  ·intro y0 y1 y2 y3 y4 y5 y6 y7 y8 y9
   unfold apogeeref11_Side.j2
   repeat' first
   | (with_reducible exact ih0 _ _ _ _)
   | (with_reducible exact ih1 _ _ _ _ _)
   | (with_reducible exact ih2 _ _ _ _ _ _ _ _ _ _)
   | (with_reducible exact apogeeref10_On.mono _ _ _ _ _ _ _)
   | (with_reducible exact apogeeref10_Turn.mono _ _ _ _ _ _ _)
   | (with_reducible exact apogeeref11_Right.mono _ _)
   | (with_reducible exact LeO.refl _)
   | (with_reducible exact LeO.none _)
   | (with_reducible refine LeO.ite ?_ ?_)
   | (with_reducible refine LeO.bind ?_ (fun _ => ?_))
   | exact ih0 _ _ _ _
   | exact ih1 _ _ _ _ _
   | exact ih2 _ _ _ _ _ _ _ _ _ _
   | exact apogeeref10_On.mono _ _ _ _ _ _ _
   | exact apogeeref10_Turn.mono _ _ _ _ _ _ _
   | exact apogeeref11_Right.mono _ _
   | exact LeO.none _
   | refine LeO.ite ?_ ?_
   | refine LeO.bind ?_ (fun _ => ?_)
theorem apogeeref11_Side.mono : ∀ a0 a1 a2 k, LeO (apogeeref11_Side.f k a0 a1 a2) (apogeeref11_Side.f (k + 1) a0 a1 a2) := by
 intro a0 a1 a2 k
 obtain ⟨ih0, ih1, ih2⟩ := apogeeref11_Side.mono_l k
 unfold apogeeref11_Side.f
 repeat' first
   | (with_reducible exact ih0 _ _ _ _)
   | (with_reducible exact ih1 _ _ _ _ _)
   | (with_reducible exact ih2 _ _ _ _ _ _ _ _ _ _)
   | (with_reducible exact apogeeref10_On.mono _ _ _ _ _ _ _)
   | (with_reducible exact apogeeref10_Turn.mono _ _ _ _ _ _ _)
   | (with_reducible exact apogeeref11_Right.mono _ _)
   | (with_reducible exact LeO.refl _)
   | (with_reducible exact LeO.none _)
   | (with_reducible refine LeO.ite ?_ ?_)
   | (with_reducible refine LeO.bind ?_ (fun _ => ?_))
   | exact ih0 _ _ _ _
   | exact ih1 _ _ _ _ _
   | exact ih2 _ _ _ _ _ _ _ _ _ _
   | exact apogeeref10_On.mono _ _ _ _ _ _ _
   | exact apogeeref10_Turn.mono _ _ _ _ _ _ _
   | exact apogeeref11_Right.mono _ _
   | exact LeO.none _
   | refine LeO.ite ?_ ?_
   | refine LeO.bind ?_ (fun _ => ?_)
def apogeeref11_Side.T7 : Bool × List (List Nat × List Nat) := (true, [([], []), ([], []), ([0, 1], [0, 1]), ([2], [2]), ([], []), ([], []), ([4, 5], [4, 5]), ([], []), ([], []), ([7, 3, 6, 0, 1, 2, 3, 7, 8], [3, 7]), ([8, 6, 9, 0, 1, 2, 3, 4, 5, 6, 7, 8, 9], [6, 8])])
def apogeeref11_Side.B7 : List Nat := [0, 0, 3, 7, 0, 0, 48, 0, 0, 511, 1023]
theorem apogeeref11_Side.tab7 : rtab .any (opsOf Try.f33 7) = apogeeref11_Side.T7 := by kernel_rfl
theorem apogeeref11_Side.bits7 : waitsOk apogeeref11_Side.T7.2 apogeeref11_Side.B7 = true := by kernel_rfl
set_option maxHeartbeats 8000000 in
set_option maxRecDepth 100000 in
theorem apogeeref11_Side.calls (k : Nat) (A0 : Option Addr) (c0 : Nat) (l0 : List (S41)) (a1_0 : Int) (a1_1 : Int) (r : Int) (w : World) (hr0 : Kd.C k41 w A0 l0.length l0) (hc0 : l0.length ≤ c0) (h : apogeeref11_Side.f k l0 a1_0 a1_1 = some r) :
  Calls Try.prog 33 #[.slice A0 l0.length c0, .agg #[.int .i64 a1_0, .int .i64 a1_1]] w fun e w' => e = .returned (.int .i64 r) ∧ Below w.heap.size w w' := by
 have hu41 := Try.underlying41
 have HR0 := bA hr0
 have HC0 := bA hc0
 clear hr0 hc0
 have HB := bA (Below.refl w.heap.size w)
 have H : ((apogeeref11_Right.f k l0).bind fun t561 => (if t561 = true then ((apogeeref10_Right.f a1_0 a1_1).bind fun t562 => (apogeeref11_Side.j0 k l0 (!t562) a1_0 a1_1)) else (apogeeref11_Side.j0 k l0 true a1_0 a1_1))) = some r := h
 clear h
 have HC3 := bA H
 clear H
 go_enter Try.func33, Try.ntmps33
 go_upto_region 1 with (first | ((with_reducible refine gate_dst (N := 3) rfl ?_); refine bE (N := 3) (cs := #[.int .i64 a1_0, .int .i64 a1_1]) (t := 41) ?_; intro gb560 hg w4 hbox hb; have n0_ := bA (bS hb); have n1_ := bA (hbox); have n2_ := bA (bZ hg); have n3_ := bA (bZ hg); clear HB; have HB := n0_; have BK560 := n1_; have GW560 := n2_; have GE560 := n3_; clear n0_ n1_ n2_ n3_; clear hb hbox hg))
 (try simp only [Act.put, List.setIfInBounds_toArray, List.set_cons_zero, List.set_cons_succ])
 go_cut [16] (fun v16 wc => ∃ (kq : Nat) (x16_2 : Bool), v16 = .bool x16_2 ∧ Aside0 (apogeeref11_Side.j0 kq l0 x16_2 a1_0 a1_1 = some r) ∧ Aside0 (kq ≤ k) ∧ Aside0 (wc.heap[gb560]? = some (.cells #[.int .i64 a1_0, .int .i64 a1_1] 41 (0, 0))) ∧ Aside0 (Below w.heap.size w wc))
 case first =>
  have H := HC3.out
  clear HC3
  replace H := Option.bind_eq_some_iff.mp H
  obtain ⟨t561, A50, H⟩ := H
  have A5 := bA A50
  clear A50
  by_cases c6 : t561 = true
  subst c6
  rw [if_pos rfl] at H
  replace H := Option.bind_eq_some_iff.mp H
  obtain ⟨t562, A70, H⟩ := H
  have A7 := bA A70
  clear A70
  have H' := bA H
  clear H
  rotate_left
  replace c6 := Bool.eq_false_iff.mpr c6
  subst c6
  rw [if_neg bn] at H
  have H' := bA H
  clear H
  rotate_left
  all_goals go_wp2_with (first | ((first | ((with_reducible refine gate_callee (f := 28) rfl ?_); refine bC (some 10) Try.func28 #[.slice A0 l0.length c0] ?_) | go_at_call 28); (with_reducible refine (apogeeref11_Right.calls k _ _ l0 true _ ?side1 ?side2 A5.out).mono ?_); (case side1 => exact bQ HR0); (case side2 => exact HC0.out); rintro e wz0 ⟨rfl, hb⟩; (first | refine ⟨_, rfl, ?_⟩ | skip); replace BK560 := bA (bB BK560 hb); replace HB := bA (bS hb); (try clear hb); obtain ⟨hz1, hz2, hz3, hz4⟩ := bc2 BK560) | (go_at_call 40; (with_reducible refine (apogeeref10_Right.calls a1_0 a1_1 t562 _ A7.out).mono ?_); rintro e wz1 ⟨rfl, hb⟩; replace BK560 := bA (bB BK560 hb); replace HB := bA (bS hb); (try clear hb)) | ((first | ((with_reducible refine gate_callee (f := 28) rfl ?_); refine bC (some 10) Try.func28 #[.slice A0 l0.length c0] ?_) | go_at_call 28); (with_reducible refine (apogeeref11_Right.calls k _ _ l0 false _ ?side1 ?side2 A5.out).mono ?_); (case side1 => exact bQ HR0); (case side2 => exact HC0.out); rintro e wz0 ⟨rfl, hb⟩; (first | refine ⟨_, rfl, ?_⟩ | skip); replace BK560 := bA (bB BK560 hb); replace HB := bA (bS hb); (try clear hb)))
  ·go_meet
   case rel => exact ⟨_, (!t562), bs, H', ⟨by first | omega | exact Nat.le_refl _⟩, ⟨by (with_reducible repeat (first | refine blk_drewN ?_ _ | refine blk_drew ?_ | refine blk_alloc ?_ _)); exact BK560.out⟩, ⟨bX⟩⟩
  go_meet
  case rel => exact ⟨_, (true), bs, H', ⟨by first | omega | exact Nat.le_refl _⟩, ⟨by (with_reducible repeat (first | refine blk_drewN ?_ _ | refine blk_drew ?_ | refine blk_alloc ?_ _)); exact BK560.out⟩, ⟨bX⟩⟩
 clear HC3
 try clear c2
 try clear p2
 try clear c3
 try clear c6
 try clear hcz9_0
 try clear hcz9_1
 try clear hfz9_0
 try clear hfz9_1
 obtain ⟨kq, x16_2, rfl, HA, HJ2, BK560, HB⟩ := hcut
 cases kq with
 | zero => exact absurd HA.out (by simp [apogeeref11_Side.j0])
 | succ kj2 =>
  have H := HA.out
  clear HA
  simp only [apogeeref11_Side.j0] at H
  by_cases c12 : x16_2 = true
  ·subst c12
   rw [if_pos rfl] at H
   obtain rfl := Option.some.inj H
   go_wp2
   go_ret
   exact bF
  replace c12 := Bool.eq_false_iff.mpr c12
  subst c12
  rw [if_neg bn] at H
  have H' := bA H
  clear H
  go_wp2
  go_loopg [5, 6] kj2 (fun kq v5 v6 w' => ∃ (x5_2 : Bool) (x6_2 : Int), v5 = .bool x5_2 ∧ v6 = .int .i64 x6_2 ∧ Aside0 (apogeeref11_Side.l0 kq l0 x5_2 x6_2 a1_0 a1_1 = some r) ∧ Aside0 (kq ≤ kj2) ∧ Aside0 (w'.heap[gb560]? = some (.cells #[.int .i64 a1_0, .int .i64 a1_1] 41 (0, 0))) ∧ Aside0 (Below w.heap.size w w'))
  case atStart => exact ⟨(false), (0), bs, bs, H', ⟨Nat.le_refl _⟩, ⟨by (with_reducible repeat (first | refine blk_drewN ?_ _ | refine blk_drew ?_ | refine blk_alloc ?_ _)); exact BK560.out⟩, ⟨bX⟩⟩
  clear H'
  try clear c1
  try clear c2
  try clear p2
  try clear c3
  try clear c6
  try clear c12
  try clear hcz9_0
  try clear hcz9_1
  try clear hfz9_0
  try clear hfz9_1
  try clear p2
  obtain ⟨x5_2, x6_2, rfl, rfl, HA, HK2, BK560, HB⟩ := hrel
  cases gk with
  | zero => exact absurd HA.out (by simp [apogeeref11_Side.l0])
  | succ k2 =>
   have H := HA.out
   clear HA
   simp only [apogeeref11_Side.l0] at H
   by_cases c13 : x6_2 < (l0.length : Int)
   rotate_left
   ·rw [if_neg c13] at H
    have c13b0 : decide (x6_2 < (l0.length : Int)) = false := decide_eq_false c13
    clear c13
    by_cases c96 : x5_2 = true
    subst c96
    rw [if_pos rfl] at H
    obtain rfl := Option.some.inj H
    rotate_left
    replace c96 := Bool.eq_false_iff.mpr c96
    subst c96
    rw [if_neg bn] at H
    obtain rfl := Option.some.inj H
    rotate_left
    all_goals go_wp2
    all_goals (go_ret; exact bF)
   rw [if_pos c13] at H
   have c13b0 : decide (x6_2 < (l0.length : Int)) = true := decide_eq_true c13
   clear c13
   by_cases c14 : 0 ≤ x6_2
   rotate_left
   ·rw [if_neg c14] at H
    exact absurd H (by simp)
   rw [if_pos c14] at H
   have c14b0 : decide (0 ≤ x6_2) = true := decide_eq_true c14
   clear c14
   replace H := Option.bind_eq_some_iff.mp H
   obtain ⟨⟨t564, t565⟩, A150, H⟩ := H
   replace H : ((apogeeref10_On.f k2 a1_0 a1_1 ((rd_T41 l0 x6_2).f0) ((rd_T41 l0 x6_2).f1) t564 t565).bind fun t568 => (apogeeref11_Side.j2 k2 l0 x5_2 x6_2 t568 a1_0 a1_1 ((rd_T41 l0 x6_2).f0) ((rd_T41 l0 x6_2).f1) t564 t565)) = some r := H
   have A15 := bA A150
   clear A150
   have HC16 := bA H
   clear H
   try go_wp2
   replace BK560 := bA (blk_drew BK560.out)
   replace HB := bA (below_drew1 HB.out)
   have p563 : 0 ≤ (x6_2 : Int) := bo
   have q563 : x6_2 < (l0.length : Int) := bo
   obtain ⟨ad563, e563, hx563_0, hx563_1⟩ := at_T41 HR0.out x6_2 p563 q563
   have hw563_1 := hx563_1
   have hw563_0 := hx563_0
   cases e563
   replace hx563_0 := bK hx563_0
   replace hx563_1 := bK hx563_1
   replace p563 := eq_true p563
   replace q563 := eq_true q563
   refine start_ (n := 11) (S := fun w' => True) (ds := []) #[false,false,false,false,false,false,false,false,false,false,false] (by kernel_rfl) rfl rfl trivial (fun hHeld => ?_); refine with_tabW apogeeref11_Side.tab7 apogeeref11_Side.bits7 (fun HT_ HW_ => ?_)
   generalize wr.drew = w17 at BK560 HB hx563_0 hx563_1 hHeld ⊢
   refine bU (i := 0) (N := some 23) ?_
   refine bU (i := 1) (N := some 24) ?_
   refine bU (i := 4) (N := some 27) ?_
   refine bU (i := 5) (N := some 28) ?_
   refine inv_at [2, 3, 6, 7, 8, 9, 10] (fun a0_ b a w' => ∃ (gb566 : Nat) (gb567 : Nat) (m7_ : Value) (m8_ : Value), a = putSel a0_ b [(2, 25, .pointer (some (ad563.add ((x6_2).toNat * 2)))), (3, 26, .agg #[.int .i64 ((rd_T41 l0 x6_2).f0), .int .i64 ((rd_T41 l0 x6_2).f1)]), (6, 29, .agg #[.int .i64 t564, .int .i64 t565]), (7, 7, m7_), (8, 8, m8_)] ∧ (w'.heap[gb560]? = some (.cells #[.int .i64 a1_0, .int .i64 a1_1] 41 (0, 0))) ∧ (Below w.heap.size w w') ∧ (b 7 = true → b 8 = true → gb567 ≠ gb566) ∧ (b 7 = true → b 8 = true → gb566 ≠ gb567) ∧ (b 7 = true → b 9 = false → w'.heap[gb566]? = some (.cells #[.int .i64 0, .int .i64 0] 41 (0, 0))) ∧ (b 7 = true → w.heap.size ≤ gb566) ∧ (b 7 = true → w.heap.size ≤ gb566) ∧ (b 7 = true → gb560 ≠ gb566) ∧ (b 7 = true → gb566 ≠ gb560) ∧ (b 8 = true → b 10 = false → w'.heap[gb567]? = some (.cells #[.int .i64 0, .int .i64 0] 41 (0, 0))) ∧ (b 8 = true → w.heap.size ≤ gb567) ∧ (b 8 = true → w.heap.size ≤ gb567) ∧ (b 8 = true → gb560 ≠ gb567) ∧ (b 8 = true → gb567 ≠ gb560) ∧ (b 9 = true → w'.heap[gb566]? = some (.cells #[.int .i64 ((rd_T41 l0 x6_2).f0), .int .i64 ((rd_T41 l0 x6_2).f1)] 41 (0, 0))) ∧ (b 10 = true → w'.heap[gb567]? = some (.cells #[.int .i64 t564, .int .i64 t565] 41 (0, 0))) ∧ (b 7 = true → (m7_ : Value) = .pointer (some ⟨gb566, 0, none⟩)) ∧ (b 8 = true → (m8_ : Value) = .pointer (some ⟨gb567, 0, none⟩))) HT_.out HW_.out (by kernel_rfl) (by kernel_rfl) ?_ ?_ ?_
   ·exact ⟨0, 0, .bool false, .bool false, by simp only [putSel, Bool.false_eq_true, if_false], BK560.out, HB.out, fun h_ => absurd h_ (by decide), fun h_ => absurd h_ (by decide), fun h_ => absurd h_ (by decide), fun h_ => absurd h_ (by decide), fun h_ => absurd h_ (by decide), fun h_ => absurd h_ (by decide), fun h_ => absurd h_ (by decide), fun h_ => absurd h_ (by decide), fun h_ => absurd h_ (by decide), fun h_ => absurd h_ (by decide), fun h_ => absurd h_ (by decide), fun h_ => absurd h_ (by decide), fun h_ => absurd h_ (by decide), fun h_ => absurd h_ (by decide), fun h_ => absurd h_ (by decide), fun h_ => absurd h_ (by decide)⟩
   ·skip
    clear BK560 HB
    refine steps_cons ?_ ?_
    ·rintro b a w' ⟨gb566, gb567, m7_, m8_, ha, Q_BK560, Q_HB, Q_NB567_566, Q_NB566_567, Q_BK566, Q_GW566, Q_GE566, Q_NB560_566, Q_NB566_560, Q_BK567, Q_GW567, Q_GE567, Q_NB560_567, Q_NB567_560, Q_BK566_e9, Q_BK567_e10, Q_X7_, Q_X8_⟩ hb_ hon hoff
     refine ⟨_, rfl, fun K hK => ?_⟩
     have e23 : a.tmps[23]? = some (.slice (some ad563) l0.length c0) := by rw [ha]; exact (putSel_off rfl).trans rfl
     have e24 : a.tmps[24]? = some (.int .i64 x6_2) := by rw [ha]; exact (putSel_off rfl).trans rfl
     replace ha := bA ha
     have BK560 := bA Q_BK560
     have HB := bA Q_HB
     have hs0_ : w'.cell? (ad563.add ((x6_2).toNat * 2)) = some (.int .i64 ((rd_T41 l0 x6_2).f0)) := (bK hw563_0)
     have hs1_ : w'.cell? ⟨(ad563.add ((x6_2).toNat * 2)).block, (ad563.add ((x6_2).toNat * 2)).off + 1, none⟩ = some (.int .i64 ((rd_T41 l0 x6_2).f1)) := (bK hw563_1)
     refine value_ (w1 := w') (v := .pointer (some (ad563.add ((x6_2).toNat * 2)))) (by rfl) rfl ?_ ?_
     ·go_simp
      (try simp only [i64_w])
      try rfl
     refine hK.out _ _ ⟨gb566, gb567, m7_, m8_, (by rw [ha.out]; exact putSel_upk 0 hb_ rfl rfl rfl), Q_BK560, Q_HB, Q_NB567_566, Q_NB566_567, Q_BK566, Q_GW566, Q_GE566, Q_NB560_566, Q_NB566_560, Q_BK567, Q_GW567, Q_GE567, Q_NB560_567, Q_NB567_560, fun h0_ => absurd ((hoff 9 (by kernel_rfl)).symm.trans h0_) (by decide), fun h0_ => absurd ((hoff 10 (by kernel_rfl)).symm.trans h0_) (by decide), Q_X7_, Q_X8_⟩
    refine steps_cons ?_ ?_
    ·rintro b a w' ⟨gb566, gb567, m7_, m8_, ha, Q_BK560, Q_HB, Q_NB567_566, Q_NB566_567, Q_BK566, Q_GW566, Q_GE566, Q_NB560_566, Q_NB566_560, Q_BK567, Q_GW567, Q_GE567, Q_NB560_567, Q_NB567_560, Q_BK566_e9, Q_BK567_e10, Q_X7_, Q_X8_⟩ hb_ hon hoff
     refine ⟨_, rfl, fun K hK => ?_⟩
     have e25 : a.tmps[25]? = some (.pointer (some (ad563.add ((x6_2).toNat * 2)))) := by rw [ha]; exact putSel_on (e := (2, 25, .pointer (some (ad563.add ((x6_2).toNat * 2))))) 0 rfl rfl (hon 2 (by kernel_rfl)) rfl
     replace ha := bA ha
     have BK560 := bA Q_BK560
     have HB := bA Q_HB
     have hs0_ : w'.cell? (ad563.add ((x6_2).toNat * 2)) = some (.int .i64 ((rd_T41 l0 x6_2).f0)) := (bK hw563_0)
     have hs1_ : w'.cell? ⟨(ad563.add ((x6_2).toNat * 2)).block, (ad563.add ((x6_2).toNat * 2)).off + 1, none⟩ = some (.int .i64 ((rd_T41 l0 x6_2).f1)) := (bK hw563_1)
     refine value_ (w1 := w') (v := .agg #[.int .i64 ((rd_T41 l0 x6_2).f0), .int .i64 ((rd_T41 l0 x6_2).f1)]) (by rfl) rfl ?_ ?_
     ·go_simp
      (try simp only [i64_w])
      try rfl
     refine hK.out _ _ ⟨gb566, gb567, m7_, m8_, (by rw [ha.out]; exact putSel_upk 1 hb_ rfl rfl rfl), Q_BK560, Q_HB, Q_NB567_566, Q_NB566_567, Q_BK566, Q_GW566, Q_GE566, Q_NB560_566, Q_NB566_560, Q_BK567, Q_GW567, Q_GE567, Q_NB560_567, Q_NB567_560, fun h0_ => absurd ((hoff 9 (by kernel_rfl)).symm.trans h0_) (by decide), fun h0_ => absurd ((hoff 10 (by kernel_rfl)).symm.trans h0_) (by decide), Q_X7_, Q_X8_⟩
    refine steps_cons ?_ ?_
    ·rintro b a w' ⟨gb566, gb567, m7_, m8_, ha, Q_BK560, Q_HB, Q_NB567_566, Q_NB566_567, Q_BK566, Q_GW566, Q_GE566, Q_NB560_566, Q_NB566_560, Q_BK567, Q_GW567, Q_GE567, Q_NB560_567, Q_NB567_560, Q_BK566_e9, Q_BK567_e10, Q_X7_, Q_X8_⟩ hb_ hon hoff
     refine ⟨_, rfl, fun K hK => ?_⟩
     have e27 : a.tmps[27]? = some (.slice (some ad563) l0.length c0) := by rw [ha]; exact (putSel_off rfl).trans rfl
     have e28 : a.tmps[28]? = some (.int .i64 x6_2) := by rw [ha]; exact (putSel_off rfl).trans rfl
     replace ha := bA ha
     have BK560 := bA Q_BK560
     have HB := bA Q_HB
     refine goes_ Try.func69 (by kernel_rfl) rfl #[.slice (some ad563) l0.length c0, .int .i64 x6_2] (by rfl) rfl rfl (by first | (simp only [List.map_toArray, List.map_cons, List.map_nil, Act.eval, Array.getD_eq_getD_getElem?, Option.getD_some, e27, e28]; done) | (simp only [List.map_toArray, List.map_cons, List.map_nil, Act.eval, Array.getD_eq_getD_getElem?, Option.getD_some, e27, e28]; rfl)) ?_
     with_reducible refine (apogeeref11_next.calls _ _ l0 x6_2 t564 t565 _ ?side1 ?side2 A15.out).mono ?_
     (case side1 => exact bQ HR0)
     (case side2 => exact HC0.out)
     rintro e w18 ⟨rfl, hb⟩
     refine ⟨_, rfl, ?_⟩
     have n0_ := bA (bB BK560 hb)
     have n1_ := bA (bS hb)
     have z_BK566 := fun (h0_ : b 7 = true) (h1_ : b 9 = false) => (show w18.heap[gb566]? = some (.cells #[.int .i64 0, .int .i64 0] 41 (0, 0)) from by first | exact (blk_below (g := gb566) (o := .cells #[.int .i64 0, .int .i64 0] 41 (0, 0)) (by (with_reducible repeat (first | refine blk_drewN ?_ _ | refine blk_drew ?_ | refine blk_alloc ?_ _)); exact (Q_BK566 h0_ h1_)) hb))
     have z_BK567 := fun (h0_ : b 8 = true) (h1_ : b 10 = false) => (show w18.heap[gb567]? = some (.cells #[.int .i64 0, .int .i64 0] 41 (0, 0)) from by first | exact (blk_below (g := gb567) (o := .cells #[.int .i64 0, .int .i64 0] 41 (0, 0)) (by (with_reducible repeat (first | refine blk_drewN ?_ _ | refine blk_drew ?_ | refine blk_alloc ?_ _)); exact (Q_BK567 h0_ h1_)) hb))
     clear BK560
     clear HB
     have BK560 := n0_
     have HB := n1_
     clear n0_ n1_
     (try clear hb)
     refine hK.out _ _ ⟨gb566, gb567, m7_, m8_, (by rw [ha.out]; exact putSel_upk 2 hb_ rfl rfl rfl), (bP BK560), bX, Q_NB567_566, Q_NB566_567, z_BK566, Q_GW566, Q_GE566, Q_NB560_566, Q_NB566_560, z_BK567, Q_GW567, Q_GE567, Q_NB560_567, Q_NB567_560, fun h0_ => absurd ((hoff 9 (by kernel_rfl)).symm.trans h0_) (by decide), fun h0_ => absurd ((hoff 10 (by kernel_rfl)).symm.trans h0_) (by decide), Q_X7_, Q_X8_⟩
    refine steps_cons ?_ ?_
    ·rintro b a w' ⟨gb566, gb567, m7_, m8_, ha, Q_BK560, Q_HB, Q_NB567_566, Q_NB566_567, Q_BK566, Q_GW566, Q_GE566, Q_NB560_566, Q_NB566_560, Q_BK567, Q_GW567, Q_GE567, Q_NB560_567, Q_NB567_560, Q_BK566_e9, Q_BK567_e10, Q_X7_, Q_X8_⟩ hb_ hon hoff
     refine ⟨_, rfl, fun K hK => ?_⟩
     replace ha := bA ha
     have BK560 := bA Q_BK560
     have HB := bA Q_HB
     refine bT (N := 7) (cs := #[.int .i64 0, .int .i64 0]) (t := 41) ?_
     intro gb566 hg w18 hbox hb
     have n0_ := bA (bB BK560 hb)
     have n1_ := bA (bS hb)
     have n2_ := bA (hbox)
     have n3_ := bA (bZ hg)
     have n4_ := bA (bZ hg)
     have n5_ := bA (bL BK560 hg)
     have n6_ := bA (bG BK560 hg)
     have z_NB567_566 := fun (h0_ : up b 7 7 = true) (h1_ : up b 7 8 = true) => (show gb567 ≠ gb566 from (by rw [hg]; exact Nat.ne_of_lt ((Bool.eq_false_or_eq_true _).elim (fun q_ => blk_lt (Q_BK567_e10 q_)) (fun q_ => blk_lt (Q_BK567 h1_ q_)))))
     have z_NB566_567 := fun (h0_ : up b 7 7 = true) (h1_ : up b 7 8 = true) => (show gb566 ≠ gb567 from (by rw [hg]; exact Nat.ne_of_gt ((Bool.eq_false_or_eq_true _).elim (fun q_ => blk_lt (Q_BK567_e10 q_)) (fun q_ => blk_lt (Q_BK567 h1_ q_)))))
     have z_BK567 := fun (h0_ : b 8 = true) (h1_ : b 10 = false) => (show w18.heap[gb567]? = some (.cells #[.int .i64 0, .int .i64 0] 41 (0, 0)) from by first | exact (blk_below (g := gb567) (o := .cells #[.int .i64 0, .int .i64 0] 41 (0, 0)) (by (with_reducible repeat (first | refine blk_drewN ?_ _ | refine blk_drew ?_ | refine blk_alloc ?_ _)); exact (Q_BK567 h0_ h1_)) hb))
     clear BK560
     clear HB
     have BK560 := n0_
     have HB := n1_
     have BK566 := n2_
     have GW566 := n3_
     have GE566 := n4_
     have NB560_566 := n5_
     have NB566_560 := n6_
     clear n0_ n1_ n2_ n3_ n4_ n5_ n6_
     clear hb hbox hg
     refine hK.out _ _ ⟨gb566, gb567, (.pointer (some ⟨gb566, 0, none⟩)), m8_, (by rw [ha.out]; exact putSel_upk 3 hb_ rfl rfl rfl), (bP BK560), bX, z_NB567_566, z_NB566_567, fun _ _ => (bP BK566), fun _ => GW566.out, fun _ => GE566.out, fun _ => NB560_566.out, fun _ => NB566_560.out, z_BK567, Q_GW567, Q_GE567, Q_NB560_567, Q_NB567_560, fun h0_ => absurd ((hoff 9 (by kernel_rfl)).symm.trans h0_) (by decide), fun h0_ => absurd ((hoff 10 (by kernel_rfl)).symm.trans h0_) (by decide), fun _ => rfl, Q_X8_⟩
    refine steps_cons ?_ ?_
    ·rintro b a w' ⟨gb566, gb567, m7_, m8_, ha, Q_BK560, Q_HB, Q_NB567_566, Q_NB566_567, Q_BK566, Q_GW566, Q_GE566, Q_NB560_566, Q_NB566_560, Q_BK567, Q_GW567, Q_GE567, Q_NB560_567, Q_NB567_560, Q_BK566_e9, Q_BK567_e10, Q_X7_, Q_X8_⟩ hb_ hon hoff
     refine ⟨_, rfl, fun K hK => ?_⟩
     replace ha := bA ha
     have BK560 := bA Q_BK560
     have HB := bA Q_HB
     refine bT (N := 8) (cs := #[.int .i64 0, .int .i64 0]) (t := 41) ?_
     intro gb567 hg w18 hbox hb
     have n0_ := bA (bB BK560 hb)
     have n1_ := bA (bS hb)
     have n2_ := bA (hbox)
     have n3_ := bA (bZ hg)
     have n4_ := bA (bZ hg)
     have n5_ := bA (bL BK560 hg)
     have n6_ := bA (bG BK560 hg)
     have z_NB567_566 := fun (h0_ : up b 8 7 = true) (h1_ : up b 8 8 = true) => (show gb567 ≠ gb566 from (by rw [hg]; exact Nat.ne_of_gt ((Bool.eq_false_or_eq_true _).elim (fun q_ => blk_lt (Q_BK566_e9 q_)) (fun q_ => blk_lt (Q_BK566 h0_ q_)))))
     have z_NB566_567 := fun (h0_ : up b 8 7 = true) (h1_ : up b 8 8 = true) => (show gb566 ≠ gb567 from (by rw [hg]; exact Nat.ne_of_lt ((Bool.eq_false_or_eq_true _).elim (fun q_ => blk_lt (Q_BK566_e9 q_)) (fun q_ => blk_lt (Q_BK566 h0_ q_)))))
     have z_BK566 := fun (h0_ : b 7 = true) (h1_ : b 9 = false) => (show w18.heap[gb566]? = some (.cells #[.int .i64 0, .int .i64 0] 41 (0, 0)) from by first | exact (blk_below (g := gb566) (o := .cells #[.int .i64 0, .int .i64 0] 41 (0, 0)) (by (with_reducible repeat (first | refine blk_drewN ?_ _ | refine blk_drew ?_ | refine blk_alloc ?_ _)); exact (Q_BK566 h0_ h1_)) hb))
     clear BK560
     clear HB
     have BK560 := n0_
     have HB := n1_
     have BK567 := n2_
     have GW567 := n3_
     have GE567 := n4_
     have NB560_567 := n5_
     have NB567_560 := n6_
     clear n0_ n1_ n2_ n3_ n4_ n5_ n6_
     clear hb hbox hg
     refine hK.out _ _ ⟨gb566, gb567, m7_, (.pointer (some ⟨gb567, 0, none⟩)), (by rw [ha.out]; exact putSel_upk 4 hb_ rfl rfl rfl), (bP BK560), bX, z_NB567_566, z_NB566_567, z_BK566, Q_GW566, Q_GE566, Q_NB560_566, Q_NB566_560, fun _ _ => (bP BK567), fun _ => GW567.out, fun _ => GE567.out, fun _ => NB560_567.out, fun _ => NB567_560.out, fun h0_ => absurd ((hoff 9 (by kernel_rfl)).symm.trans h0_) (by decide), fun h0_ => absurd ((hoff 10 (by kernel_rfl)).symm.trans h0_) (by decide), Q_X7_, fun _ => rfl⟩
    refine steps_cons ?_ ?_
    ·rintro b a w' ⟨gb566, gb567, m7_, m8_, ha, Q_BK560, Q_HB, Q_NB567_566, Q_NB566_567, Q_BK566, Q_GW566, Q_GE566, Q_NB560_566, Q_NB566_560, Q_BK567, Q_GW567, Q_GE567, Q_NB560_567, Q_NB567_560, Q_BK566_e9, Q_BK567_e10, Q_X7_, Q_X8_⟩ hb_ hon hoff
     refine ⟨_, rfl, fun K hK => ?_⟩
     have e7 : a.tmps[7]? = some (m7_) := by rw [ha]; exact putSel_on (e := (7, 7, m7_)) 3 rfl rfl (hon 7 (by kernel_rfl)) rfl
     rw [Q_X7_ (hon 7 (by kernel_rfl))] at e7
     have e26 : a.tmps[26]? = some (.agg #[.int .i64 ((rd_T41 l0 x6_2).f0), .int .i64 ((rd_T41 l0 x6_2).f1)]) := by rw [ha]; exact putSel_on (e := (3, 26, .agg #[.int .i64 ((rd_T41 l0 x6_2).f0), .int .i64 ((rd_T41 l0 x6_2).f1)])) 1 rfl rfl (hon 3 (by kernel_rfl)) rfl
     replace ha := bA ha
     have BK560 := bA Q_BK560
     have HB := bA Q_HB
     have NB567_566 := bA (Q_NB567_566 (hon 7 (by kernel_rfl)) (hon 8 (by kernel_rfl)))
     have NB566_567 := bA (Q_NB566_567 (hon 7 (by kernel_rfl)) (hon 8 (by kernel_rfl)))
     have BK566 := bA (Q_BK566 (hon 7 (by kernel_rfl)) hb_)
     have GW566 := bA (Q_GW566 (hon 7 (by kernel_rfl)))
     have GE566 := bA (Q_GE566 (hon 7 (by kernel_rfl)))
     have NB560_566 := bA (Q_NB560_566 (hon 7 (by kernel_rfl)))
     have NB566_560 := bA (Q_NB566_560 (hon 7 (by kernel_rfl)))
     have BK567 := bA (Q_BK567 (hon 8 (by kernel_rfl)) (hoff 10 (by kernel_rfl)))
     have GW567 := bA (Q_GW567 (hon 8 (by kernel_rfl)))
     have GE567 := bA (Q_GE567 (hon 8 (by kernel_rfl)))
     have NB560_567 := bA (Q_NB560_567 (hon 8 (by kernel_rfl)))
     have NB567_560 := bA (Q_NB567_560 (hon 8 (by kernel_rfl)))
     have hs22 : w'.cell? ⟨gb566, 0, none⟩ = some (.int .i64 0) := bq BK566 0
     have hfs22 := blk_frozen BK566.out 0
     have hns22_0 := NB560_566.out
     have hns22_2 := NB567_566.out
     have hms22_0 := NB566_560.out
     have hms22_2 := NB566_567.out
     have hs23 : w'.cell? ⟨gb566, 1, none⟩ = some (.int .i64 0) := bq BK566 1
     have hfs23 := blk_frozen BK566.out 1
     have hns23_0 := NB560_566.out
     have hns23_2 := NB567_566.out
     have hms23_0 := NB566_560.out
     have hms23_2 := NB566_567.out
     refine skip_ (w1 := ?_) (by rfl) rfl ?_ ?_
     rotate_left
     ·go_simp
      rfl
     refine hK.out _ _ ⟨gb566, gb567, m7_, m8_, (by rw [ha.out]; exact putSel_none (v := undef) rfl), (by (repeat ((with_reducible repeat (first | refine blk_drewN ?_ _ | refine blk_drew ?_ | refine blk_alloc ?_ _)); refine blk_far ?_ NB560_566.out _)); (with_reducible repeat (first | refine blk_drewN ?_ _ | refine blk_drew ?_ | refine blk_alloc ?_ _)); exact BK560.out), bX, fun _ _ => NB567_566.out, fun _ _ => NB566_567.out, fun _ h1_ => absurd ((up_self b 9).symm.trans h1_) (by decide), fun _ => GW566.out, fun _ => GE566.out, fun _ => NB560_566.out, fun _ => NB566_560.out, fun _ _ => (by (repeat ((with_reducible repeat (first | refine blk_drewN ?_ _ | refine blk_drew ?_ | refine blk_alloc ?_ _)); refine blk_far ?_ NB567_566.out _)); (with_reducible repeat (first | refine blk_drewN ?_ _ | refine blk_drew ?_ | refine blk_alloc ?_ _)); exact BK567.out), fun _ => GW567.out, fun _ => GE567.out, fun _ => NB560_567.out, fun _ => NB567_560.out, fun _ => (by (with_reducible repeat (first | refine blk_drewN ?_ _ | refine blk_drew ?_ | refine blk_alloc ?_ _)); refine blk_put (cs := #[.int .i64 ((rd_T41 l0 x6_2).f0), .int .i64 0]) ?_ 1 _ rfl; (with_reducible repeat (first | refine blk_drewN ?_ _ | refine blk_drew ?_ | refine blk_alloc ?_ _)); refine blk_put (cs := #[.int .i64 0, .int .i64 0]) ?_ 0 _ rfl; (with_reducible repeat (first | refine blk_drewN ?_ _ | refine blk_drew ?_ | refine blk_alloc ?_ _)); exact BK566.out), fun h0_ => absurd ((hoff 10 (by kernel_rfl)).symm.trans h0_) (by decide), Q_X7_, Q_X8_⟩
    refine steps_cons ?_ ?_
    ·rintro b a w' ⟨gb566, gb567, m7_, m8_, ha, Q_BK560, Q_HB, Q_NB567_566, Q_NB566_567, Q_BK566, Q_GW566, Q_GE566, Q_NB560_566, Q_NB566_560, Q_BK567, Q_GW567, Q_GE567, Q_NB560_567, Q_NB567_560, Q_BK566_e9, Q_BK567_e10, Q_X7_, Q_X8_⟩ hb_ hon hoff
     refine ⟨_, rfl, fun K hK => ?_⟩
     have e8 : a.tmps[8]? = some (m8_) := by rw [ha]; exact putSel_on (e := (8, 8, m8_)) 4 rfl rfl (hon 8 (by kernel_rfl)) rfl
     rw [Q_X8_ (hon 8 (by kernel_rfl))] at e8
     have e29 : a.tmps[29]? = some (.agg #[.int .i64 t564, .int .i64 t565]) := by rw [ha]; exact putSel_on (e := (6, 29, .agg #[.int .i64 t564, .int .i64 t565])) 2 rfl rfl (hon 6 (by kernel_rfl)) rfl
     replace ha := bA ha
     have BK560 := bA Q_BK560
     have HB := bA Q_HB
     have NB567_566 := bA (Q_NB567_566 (hon 7 (by kernel_rfl)) (hon 8 (by kernel_rfl)))
     have NB566_567 := bA (Q_NB566_567 (hon 7 (by kernel_rfl)) (hon 8 (by kernel_rfl)))
     have GW566 := bA (Q_GW566 (hon 7 (by kernel_rfl)))
     have GE566 := bA (Q_GE566 (hon 7 (by kernel_rfl)))
     have NB560_566 := bA (Q_NB560_566 (hon 7 (by kernel_rfl)))
     have NB566_560 := bA (Q_NB566_560 (hon 7 (by kernel_rfl)))
     have BK567 := bA (Q_BK567 (hon 8 (by kernel_rfl)) hb_)
     have GW567 := bA (Q_GW567 (hon 8 (by kernel_rfl)))
     have GE567 := bA (Q_GE567 (hon 8 (by kernel_rfl)))
     have NB560_567 := bA (Q_NB560_567 (hon 8 (by kernel_rfl)))
     have NB567_560 := bA (Q_NB567_560 (hon 8 (by kernel_rfl)))
     have BK566 := bA (Q_BK566_e9 (hon 9 (by kernel_rfl)))
     have hs24 : w'.cell? ⟨gb567, 0, none⟩ = some (.int .i64 0) := bq BK567 0
     have hfs24 := blk_frozen BK567.out 0
     have hns24_0 := NB560_567.out
     have hns24_1 := NB566_567.out
     have hms24_0 := NB567_560.out
     have hms24_1 := NB567_566.out
     have hs25 : w'.cell? ⟨gb567, 1, none⟩ = some (.int .i64 0) := bq BK567 1
     have hfs25 := blk_frozen BK567.out 1
     have hns25_0 := NB560_567.out
     have hns25_1 := NB566_567.out
     have hms25_0 := NB567_560.out
     have hms25_1 := NB567_566.out
     refine skip_ (w1 := ?_) (by rfl) rfl ?_ ?_
     rotate_left
     ·go_simp
      rfl
     refine hK.out _ _ ⟨gb566, gb567, m7_, m8_, (by rw [ha.out]; exact putSel_none (v := undef) rfl), (by (repeat ((with_reducible repeat (first | refine blk_drewN ?_ _ | refine blk_drew ?_ | refine blk_alloc ?_ _)); refine blk_far ?_ NB560_567.out _)); (with_reducible repeat (first | refine blk_drewN ?_ _ | refine blk_drew ?_ | refine blk_alloc ?_ _)); exact BK560.out), bX, fun _ _ => NB567_566.out, fun _ _ => NB566_567.out, fun _ h1_ => absurd ((hon 9 (by kernel_rfl)).symm.trans h1_) (by decide), fun _ => GW566.out, fun _ => GE566.out, fun _ => NB560_566.out, fun _ => NB566_560.out, fun _ h1_ => absurd ((up_self b 10).symm.trans h1_) (by decide), fun _ => GW567.out, fun _ => GE567.out, fun _ => NB560_567.out, fun _ => NB567_560.out, fun _ => (by (repeat ((with_reducible repeat (first | refine blk_drewN ?_ _ | refine blk_drew ?_ | refine blk_alloc ?_ _)); refine blk_far ?_ NB566_567.out _)); (with_reducible repeat (first | refine blk_drewN ?_ _ | refine blk_drew ?_ | refine blk_alloc ?_ _)); exact BK566.out), fun _ => (by (with_reducible repeat (first | refine blk_drewN ?_ _ | refine blk_drew ?_ | refine blk_alloc ?_ _)); refine blk_put (cs := #[.int .i64 t564, .int .i64 0]) ?_ 1 _ rfl; (with_reducible repeat (first | refine blk_drewN ?_ _ | refine blk_drew ?_ | refine blk_alloc ?_ _)); refine blk_put (cs := #[.int .i64 0, .int .i64 0]) ?_ 0 _ rfl; (with_reducible repeat (first | refine blk_drewN ?_ _ | refine blk_drew ?_ | refine blk_alloc ?_ _)); exact BK567.out), Q_X7_, Q_X8_⟩
    exact steps_nil
   rintro b a w25 hall ⟨gb566, gb567, m7_, m8_, ha, Q_BK560, Q_HB, Q_NB567_566, Q_NB566_567, Q_BK566, Q_GW566, Q_GE566, Q_NB560_566, Q_NB566_560, Q_BK567, Q_GW567, Q_GE567, Q_NB560_567, Q_NB567_560, Q_BK566_e9, Q_BK567_e10, Q_X7_, Q_X8_⟩
   clear BK560 HB
   have hb2_ := hall 2 (by kernel_rfl)
   have hb3_ := hall 3 (by kernel_rfl)
   have hb6_ := hall 6 (by kernel_rfl)
   have hb7_ := hall 7 (by kernel_rfl)
   have hb8_ := hall 8 (by kernel_rfl)
   have hb9_ := hall 9 (by kernel_rfl)
   have hb10_ := hall 10 (by kernel_rfl)
   subst ha
   obtain rfl := Q_X7_ hb7_
   obtain rfl := Q_X8_ hb8_
   simp only [putSel, hb2_, hb3_, hb6_, hb7_, hb8_, hb9_, hb10_, if_true, Act.put, List.setIfInBounds_toArray, List.set_cons_zero, List.set_cons_succ]
   have BK560 := bA Q_BK560
   clear Q_BK560
   have HB := bA Q_HB
   clear Q_HB
   have NB567_566 := bA (Q_NB567_566 hb7_ hb8_)
   clear Q_NB567_566
   have NB566_567 := bA (Q_NB566_567 hb7_ hb8_)
   clear Q_NB566_567
   clear Q_BK566
   have GW566 := bA (Q_GW566 hb7_)
   clear Q_GW566
   have GE566 := bA (Q_GE566 hb7_)
   clear Q_GE566
   have NB560_566 := bA (Q_NB560_566 hb7_)
   clear Q_NB560_566
   have NB566_560 := bA (Q_NB566_560 hb7_)
   clear Q_NB566_560
   clear Q_BK567
   have GW567 := bA (Q_GW567 hb8_)
   clear Q_GW567
   have GE567 := bA (Q_GE567 hb8_)
   clear Q_GE567
   have NB560_567 := bA (Q_NB560_567 hb8_)
   clear Q_NB560_567
   have NB567_560 := bA (Q_NB567_560 hb8_)
   clear Q_NB567_560
   have BK566 := bA (Q_BK566_e9 hb9_)
   clear Q_BK566_e9
   have BK567 := bA (Q_BK567_e10 hb10_)
   clear Q_BK567_e10
   clear hall hb2_ hb3_ hb6_ hb7_ hb8_ hb9_ hb10_
   go_upto_region 8 with (fail)
   go_cut [33] (fun v33 wc => ∃ (kq : Nat) (x33_15 : Bool), v33 = .bool x33_15 ∧ Aside0 (apogeeref11_Side.j2 kq l0 x5_2 x6_2 x33_15 a1_0 a1_1 ((rd_T41 l0 x6_2).f0) ((rd_T41 l0 x6_2).f1) t564 t565 = some r) ∧ Aside0 (kq ≤ k2) ∧ Aside0 (wc.heap[gb560]? = some (.cells #[.int .i64 a1_0, .int .i64 a1_1] 41 (0, 0))) ∧ Aside0 (wc.heap[gb566]? = some (.cells #[.int .i64 ((rd_T41 l0 x6_2).f0), .int .i64 ((rd_T41 l0 x6_2).f1)] 41 (0, 0))) ∧ Aside0 (wc.heap[gb567]? = some (.cells #[.int .i64 t564, .int .i64 t565] 41 (0, 0))) ∧ Aside0 (Below w.heap.size w wc))
   case first =>
    have H := HC16.out
    clear HC16
    replace H := Option.bind_eq_some_iff.mp H
    obtain ⟨t568, A260, H⟩ := H
    have A26 := bA A260
    clear A260
    have H' := bA H
    clear H
    have hnb27 := NB560_566.out
    have hnc27 := NB566_560.out
    have hnb28 := NB560_567.out
    have hnc28 := NB567_560.out
    obtain ⟨hcz29_0, hcz29_1, hfz29_0, hfz29_1⟩ := bc2 BK560
    have hnb30 := NB566_567.out
    have hnc30 := NB567_566.out
    obtain ⟨hcz31_0, hcz31_1, hfz31_0, hfz31_1⟩ := bc2 BK566
    obtain ⟨hcz32_0, hcz32_1, hfz32_0, hfz32_1⟩ := bc2 BK567
    go_wp2_with (first | ((first | ((with_reducible refine gate_callee (f := 70) rfl ?_); refine bC (some 33) Try.func70 #[.agg #[.int .i64 a1_0, .int .i64 a1_1], .agg #[.int .i64 ((rd_T41 l0 x6_2).f0), .int .i64 ((rd_T41 l0 x6_2).f1)], .agg #[.int .i64 t564, .int .i64 t565]] ?_) | go_at_call 70); (with_reducible refine (apogeeref10_On.calls k2 a1_0 a1_1 ((rd_T41 l0 x6_2).f0) ((rd_T41 l0 x6_2).f1) t564 t565 t568 _ A26.out).mono ?_); rintro e w33 ⟨rfl, hb⟩; (first | refine ⟨_, rfl, ?_⟩ | skip); replace BK560 := bA (bB BK560 hb); replace BK566 := bA (bB BK566 hb); replace BK567 := bA (bB BK567 hb); replace HB := bA (bS hb); (try clear hb)))
    go_meet
    case rel => exact ⟨_, (t568), bs, H', ⟨by have := HJ2.out; have := HK2.out; first | omega | exact Nat.le_refl _⟩, ⟨by (with_reducible repeat (first | refine blk_drewN ?_ _ | refine blk_drew ?_ | refine blk_alloc ?_ _)); exact BK560.out⟩, ⟨by (with_reducible repeat (first | refine blk_drewN ?_ _ | refine blk_drew ?_ | refine blk_alloc ?_ _)); exact BK566.out⟩, ⟨by (with_reducible repeat (first | refine blk_drewN ?_ _ | refine blk_drew ?_ | refine blk_alloc ?_ _)); exact BK567.out⟩, ⟨bX⟩⟩
   clear HC16
   try clear c1
   try clear c2
   try clear p2
   try clear c3
   try clear p5
   try clear q5
   try clear hx5
   try clear c6
   try clear c7
   try clear c12
   try clear c13
   try clear c13b0
   try clear c14
   try clear c14b0
   try clear c27
   try clear c28
   try clear c30
   try clear c33
   try clear hcz29_0
   try clear hcz29_1
   try clear hcz31_0
   try clear hcz31_1
   try clear hcz32_0
   try clear hcz32_1
   try clear hcz9_0
   try clear hcz9_1
   try clear hfz29_0
   try clear hfz29_1
   try clear hfz31_0
   try clear hfz31_1
   try clear hfz32_0
   try clear hfz32_1
   try clear hfz9_0
   try clear hfz9_1
   try clear hx563_0
   try clear hx563_1
   try clear p2
   try clear p563
   try clear q563
   obtain ⟨kq, x33_15, rfl, HA, HJ15, BK560, BK566, BK567, HB⟩ := hcut
   cases kq with
   | zero => exact absurd HA.out (by simp [apogeeref11_Side.j2])
   | succ kj15 =>
    have H := HA.out
    clear HA
    simp only [apogeeref11_Side.j2] at H
    by_cases c34 : x33_15 = true
    subst c34
    rw [if_pos rfl] at H
    obtain rfl := Option.some.inj H
    rotate_left
    replace c34 := Bool.eq_false_iff.mpr c34
    subst c34
    rw [if_neg bn] at H
    by_cases c35 : ((rd_T41 l0 x6_2).f1) > t565
    rw [if_pos c35] at H
    have c35b0 : decide (t565 < ((rd_T41 l0 x6_2).f1)) = true := decide_eq_true c35
    clear c35
    by_cases c36 : t565 ≤ a1_1
    rw [if_pos c36] at H
    have c36b0 : decide (t565 ≤ a1_1) = true := decide_eq_true c36
    clear c36
    by_cases c37 : ((rd_T41 l0 x6_2).f1) > a1_1
    rw [if_pos c37] at H
    have c37b0 : decide (a1_1 < ((rd_T41 l0 x6_2).f1)) = true := decide_eq_true c37
    clear c37
    replace H := Option.bind_eq_some_iff.mp H
    obtain ⟨t569, A380, H⟩ := H
    have A38 := bA A380
    clear A380
    by_cases c39 : t569 > 0
    rw [if_pos c39] at H
    have c39b0 : decide (0 < t569) = true := decide_eq_true c39
    clear c39
    have H' := bA H
    clear H
    have hnb40 := NB566_560.out
    have hnc40 := NB560_566.out
    have hnb41 := NB566_567.out
    have hnc41 := NB567_566.out
    obtain ⟨hcz42_0, hcz42_1, hfz42_0, hfz42_1⟩ := bc2 BK566
    have hnb43 := NB567_560.out
    have hnc43 := NB560_567.out
    obtain ⟨hcz44_0, hcz44_1, hfz44_0, hfz44_1⟩ := bc2 BK567
    obtain ⟨hcz45_0, hcz45_1, hfz45_0, hfz45_1⟩ := bc2 BK560
    rotate_left
    rw [if_neg c39] at H
    have c39b0 : decide (0 < t569) = false := decide_eq_false c39
    clear c39
    have H' := bA H
    clear H
    have hnb47 := NB566_560.out
    have hnc47 := NB560_566.out
    have hnb48 := NB566_567.out
    have hnc48 := NB567_566.out
    obtain ⟨hcz49_0, hcz49_1, hfz49_0, hfz49_1⟩ := bc2 BK566
    have hnb50 := NB567_560.out
    have hnc50 := NB560_567.out
    obtain ⟨hcz51_0, hcz51_1, hfz51_0, hfz51_1⟩ := bc2 BK567
    obtain ⟨hcz52_0, hcz52_1, hfz52_0, hfz52_1⟩ := bc2 BK560
    rotate_left
    rw [if_neg c37] at H
    have c37b0 : decide (a1_1 < ((rd_T41 l0 x6_2).f1)) = false := decide_eq_false c37
    clear c37
    have H' := bA H
    clear H
    have hnb54 := NB566_560.out
    have hnc54 := NB560_566.out
    have hnb55 := NB566_567.out
    have hnc55 := NB567_566.out
    obtain ⟨hcz56_0, hcz56_1, hfz56_0, hfz56_1⟩ := bc2 BK566
    have hnb57 := NB567_560.out
    have hnc57 := NB560_567.out
    obtain ⟨hcz58_0, hcz58_1, hfz58_0, hfz58_1⟩ := bc2 BK567
    obtain ⟨hcz59_0, hcz59_1, hfz59_0, hfz59_1⟩ := bc2 BK560
    rotate_left
    rw [if_neg c36] at H
    have c36b0 : decide (t565 ≤ a1_1) = false := decide_eq_false c36
    clear c36
    have H' := bA H
    clear H
    have hnb60 := NB566_560.out
    have hnc60 := NB560_566.out
    have hnb61 := NB566_567.out
    have hnc61 := NB567_566.out
    obtain ⟨hcz62_0, hcz62_1, hfz62_0, hfz62_1⟩ := bc2 BK566
    have hnb63 := NB567_560.out
    have hnc63 := NB560_567.out
    obtain ⟨hcz64_0, hcz64_1, hfz64_0, hfz64_1⟩ := bc2 BK567
    obtain ⟨hcz65_0, hcz65_1, hfz65_0, hfz65_1⟩ := bc2 BK560
    rotate_left
    rw [if_neg c35] at H
    have c35b0 : decide (t565 < ((rd_T41 l0 x6_2).f1)) = false := decide_eq_false c35
    clear c35
    by_cases c66 : ((rd_T41 l0 x6_2).f1) ≤ a1_1
    rw [if_pos c66] at H
    have c66b0 : decide (((rd_T41 l0 x6_2).f1) ≤ a1_1) = true := decide_eq_true c66
    clear c66
    by_cases c67 : t565 > a1_1
    rw [if_pos c67] at H
    have c67b0 : decide (a1_1 < t565) = true := decide_eq_true c67
    clear c67
    replace H := Option.bind_eq_some_iff.mp H
    obtain ⟨t570, A680, H⟩ := H
    have A68 := bA A680
    clear A680
    by_cases c69 : t570 > 0
    rw [if_pos c69] at H
    have c69b0 : decide (0 < t570) = true := decide_eq_true c69
    clear c69
    have H' := bA H
    clear H
    have hnb70 := NB566_560.out
    have hnc70 := NB560_566.out
    have hnb71 := NB566_567.out
    have hnc71 := NB567_566.out
    obtain ⟨hcz72_0, hcz72_1, hfz72_0, hfz72_1⟩ := bc2 BK566
    have hnb73 := NB567_560.out
    have hnc73 := NB560_567.out
    obtain ⟨hcz74_0, hcz74_1, hfz74_0, hfz74_1⟩ := bc2 BK567
    obtain ⟨hcz75_0, hcz75_1, hfz75_0, hfz75_1⟩ := bc2 BK560
    rotate_left
    rw [if_neg c69] at H
    have c69b0 : decide (0 < t570) = false := decide_eq_false c69
    clear c69
    have H' := bA H
    clear H
    have hnb77 := NB566_560.out
    have hnc77 := NB560_566.out
    have hnb78 := NB566_567.out
    have hnc78 := NB567_566.out
    obtain ⟨hcz79_0, hcz79_1, hfz79_0, hfz79_1⟩ := bc2 BK566
    have hnb80 := NB567_560.out
    have hnc80 := NB560_567.out
    obtain ⟨hcz81_0, hcz81_1, hfz81_0, hfz81_1⟩ := bc2 BK567
    obtain ⟨hcz82_0, hcz82_1, hfz82_0, hfz82_1⟩ := bc2 BK560
    rotate_left
    rw [if_neg c67] at H
    have c67b0 : decide (a1_1 < t565) = false := decide_eq_false c67
    clear c67
    have H' := bA H
    clear H
    have hnb84 := NB566_560.out
    have hnc84 := NB560_566.out
    have hnb85 := NB566_567.out
    have hnc85 := NB567_566.out
    obtain ⟨hcz86_0, hcz86_1, hfz86_0, hfz86_1⟩ := bc2 BK566
    have hnb87 := NB567_560.out
    have hnc87 := NB560_567.out
    obtain ⟨hcz88_0, hcz88_1, hfz88_0, hfz88_1⟩ := bc2 BK567
    obtain ⟨hcz89_0, hcz89_1, hfz89_0, hfz89_1⟩ := bc2 BK560
    rotate_left
    rw [if_neg c66] at H
    have c66b0 : decide (((rd_T41 l0 x6_2).f1) ≤ a1_1) = false := decide_eq_false c66
    clear c66
    have H' := bA H
    clear H
    have hnb90 := NB566_560.out
    have hnc90 := NB560_566.out
    have hnb91 := NB566_567.out
    have hnc91 := NB567_566.out
    obtain ⟨hcz92_0, hcz92_1, hfz92_0, hfz92_1⟩ := bc2 BK566
    have hnb93 := NB567_560.out
    have hnc93 := NB560_567.out
    obtain ⟨hcz94_0, hcz94_1, hfz94_0, hfz94_1⟩ := bc2 BK567
    obtain ⟨hcz95_0, hcz95_1, hfz95_0, hfz95_1⟩ := bc2 BK560
    rotate_left
    all_goals go_wp2_with (first | (go_at_call 75; (with_reducible refine (apogeeref10_Turn.calls kj15 t564 t565 ((rd_T41 l0 x6_2).f0) ((rd_T41 l0 x6_2).f1) a1_0 a1_1 t569 _ A38.out).mono ?_); rintro e wz0 ⟨rfl, hb⟩; replace BK560 := bA (blk_below (g := gb560) (o := .cells #[.int .i64 a1_0, .int .i64 a1_1] 41 (0, 0)) (by (repeat ((with_reducible repeat (first | refine blk_drewN ?_ _ | refine blk_drew ?_ | refine blk_alloc ?_ _)); refine blk_far ?_ NB560_567.out _)); (repeat ((with_reducible repeat (first | refine blk_drewN ?_ _ | refine blk_drew ?_ | refine blk_alloc ?_ _)); refine blk_far ?_ NB560_566.out _)); (with_reducible repeat (first | refine blk_drewN ?_ _ | refine blk_drew ?_ | refine blk_alloc ?_ _)); exact BK560.out) hb); replace BK566 := bA (blk_below (g := gb566) (o := .cells #[.int .i64 t564, .int .i64 t565] 41 (0, 0)) (by (repeat ((with_reducible repeat (first | refine blk_drewN ?_ _ | refine blk_drew ?_ | refine blk_alloc ?_ _)); refine blk_far ?_ NB566_567.out _)); (with_reducible repeat (first | refine blk_drewN ?_ _ | refine blk_drew ?_ | refine blk_alloc ?_ _)); refine blk_put (cs := #[.int .i64 t564, .int .i64 ((rd_T41 l0 x6_2).f1)]) ?_ 1 _ rfl; (with_reducible repeat (first | refine blk_drewN ?_ _ | refine blk_drew ?_ | refine blk_alloc ?_ _)); refine blk_put (cs := #[.int .i64 ((rd_T41 l0 x6_2).f0), .int .i64 ((rd_T41 l0 x6_2).f1)]) ?_ 0 _ rfl; (with_reducible repeat (first | refine blk_drewN ?_ _ | refine blk_drew ?_ | refine blk_alloc ?_ _)); exact BK566.out) hb); replace BK567 := bA (blk_below (g := gb567) (o := .cells #[.int .i64 ((rd_T41 l0 x6_2).f0), .int .i64 ((rd_T41 l0 x6_2).f1)] 41 (0, 0)) (by (with_reducible repeat (first | refine blk_drewN ?_ _ | refine blk_drew ?_ | refine blk_alloc ?_ _)); refine blk_put (cs := #[.int .i64 ((rd_T41 l0 x6_2).f0), .int .i64 t565]) ?_ 1 _ rfl; (with_reducible repeat (first | refine blk_drewN ?_ _ | refine blk_drew ?_ | refine blk_alloc ?_ _)); refine blk_put (cs := #[.int .i64 t564, .int .i64 t565]) ?_ 0 _ rfl; (repeat ((with_reducible repeat (first | refine blk_drewN ?_ _ | refine blk_drew ?_ | refine blk_alloc ?_ _)); refine blk_far ?_ NB567_566.out _)); (with_reducible repeat (first | refine blk_drewN ?_ _ | refine blk_drew ?_ | refine blk_alloc ?_ _)); exact BK567.out) hb); replace HB := bA (bS hb); (try clear hb)) | (go_at_call 75; (with_reducible refine (apogeeref10_Turn.calls kj15 ((rd_T41 l0 x6_2).f0) ((rd_T41 l0 x6_2).f1) t564 t565 a1_0 a1_1 t570 _ A68.out).mono ?_); rintro e wz0 ⟨rfl, hb⟩; replace BK560 := bA (bB BK560 hb); replace BK566 := bA (bB BK566 hb); replace BK567 := bA (bB BK567 hb); replace HB := bA (bS hb); (try clear hb)))
    ·go_ret
     exact bF
    ·go_roundg kj15
     case measure => have := HJ2.out; have := HK2.out; have := HJ15.out; omega
     case rel => exact ⟨(!x5_2), (wrap64 (x6_2 + 1)), bs, bs, H', ⟨by have := HJ2.out; have := HK2.out; have := HJ15.out; omega⟩, ⟨by (with_reducible repeat (first | refine blk_drewN ?_ _ | refine blk_drew ?_ | refine blk_alloc ?_ _)); exact BK560.out⟩, ⟨bX⟩⟩
    ·go_roundg kj15
     case measure => have := HJ2.out; have := HK2.out; have := HJ15.out; omega
     case rel => exact ⟨(x5_2), (wrap64 (x6_2 + 1)), bs, bs, H', ⟨by have := HJ2.out; have := HK2.out; have := HJ15.out; omega⟩, ⟨by (with_reducible repeat (first | refine blk_drewN ?_ _ | refine blk_drew ?_ | refine blk_alloc ?_ _)); exact BK560.out⟩, ⟨bX⟩⟩
    ·go_roundg kj15
     case measure => have := HJ2.out; have := HK2.out; have := HJ15.out; omega
     case rel => exact ⟨(x5_2), (wrap64 (x6_2 + 1)), bs, bs, H', ⟨by have := HJ2.out; have := HK2.out; have := HJ15.out; omega⟩, ⟨by (repeat ((with_reducible repeat (first | refine blk_drewN ?_ _ | refine blk_drew ?_ | refine blk_alloc ?_ _)); refine blk_far ?_ NB560_567.out _)); (repeat ((with_reducible repeat (first | refine blk_drewN ?_ _ | refine blk_drew ?_ | refine blk_alloc ?_ _)); refine blk_far ?_ NB560_566.out _)); (with_reducible repeat (first | refine blk_drewN ?_ _ | refine blk_drew ?_ | refine blk_alloc ?_ _)); exact BK560.out⟩, ⟨bX⟩⟩
    ·go_roundg kj15
     case measure => have := HJ2.out; have := HK2.out; have := HJ15.out; omega
     case rel => exact ⟨(x5_2), (wrap64 (x6_2 + 1)), bs, bs, H', ⟨by have := HJ2.out; have := HK2.out; have := HJ15.out; omega⟩, ⟨by (repeat ((with_reducible repeat (first | refine blk_drewN ?_ _ | refine blk_drew ?_ | refine blk_alloc ?_ _)); refine blk_far ?_ NB560_567.out _)); (repeat ((with_reducible repeat (first | refine blk_drewN ?_ _ | refine blk_drew ?_ | refine blk_alloc ?_ _)); refine blk_far ?_ NB560_566.out _)); (with_reducible repeat (first | refine blk_drewN ?_ _ | refine blk_drew ?_ | refine blk_alloc ?_ _)); exact BK560.out⟩, ⟨bX⟩⟩
    ·go_roundg kj15
     case measure => have := HJ2.out; have := HK2.out; have := HJ15.out; omega
     case rel => exact ⟨(!x5_2), (wrap64 (x6_2 + 1)), bs, bs, H', ⟨by have := HJ2.out; have := HK2.out; have := HJ15.out; omega⟩, ⟨by (with_reducible repeat (first | refine blk_drewN ?_ _ | refine blk_drew ?_ | refine blk_alloc ?_ _)); exact BK560.out⟩, ⟨bX⟩⟩
    ·go_roundg kj15
     case measure => have := HJ2.out; have := HK2.out; have := HJ15.out; omega
     case rel => exact ⟨(x5_2), (wrap64 (x6_2 + 1)), bs, bs, H', ⟨by have := HJ2.out; have := HK2.out; have := HJ15.out; omega⟩, ⟨by (with_reducible repeat (first | refine blk_drewN ?_ _ | refine blk_drew ?_ | refine blk_alloc ?_ _)); exact BK560.out⟩, ⟨bX⟩⟩
    ·go_roundg kj15
     case measure => have := HJ2.out; have := HK2.out; have := HJ15.out; omega
     case rel => exact ⟨(x5_2), (wrap64 (x6_2 + 1)), bs, bs, H', ⟨by have := HJ2.out; have := HK2.out; have := HJ15.out; omega⟩, ⟨by (with_reducible repeat (first | refine blk_drewN ?_ _ | refine blk_drew ?_ | refine blk_alloc ?_ _)); exact BK560.out⟩, ⟨bX⟩⟩
    go_roundg kj15
    case measure => have := HJ2.out; have := HK2.out; have := HJ15.out; omega
    case rel => exact ⟨(x5_2), (wrap64 (x6_2 + 1)), bs, bs, H', ⟨by have := HJ2.out; have := HK2.out; have := HJ15.out; omega⟩, ⟨by (with_reducible repeat (first | refine blk_drewN ?_ _ | refine blk_drew ?_ | refine blk_alloc ?_ _)); exact BK560.out⟩, ⟨bX⟩⟩
end Go.Proofs.Ytjmibjmlihmglaa.G
