-- Written by a program of this session out of the translation; Lean checks it.
import Derived.Test.YtjmibjmlihmglaaGx0
import Derived.Test.YtjmibjmlihmglaaGx3
import Derived.Test.YtjmibjmlihmglaaGx5
import Derived.Test.YtjmibjmlihmglaaGx6
namespace Go.Proofs.Ytjmibjmlihmglaa.G
open Go.RowKit Go.Proofs.YtjmibjmlihmglaaW.PrintWords Go.Proofs.YtjmibjmlihmglaaW.PrintLast Go.Proofs.YtjmibjmlihmglaaW.PrintMore
attribute [local go_sem] max2_int min2_int max_two min_two max_three min_three max_four min_four   -- for this text's walks alone
set_option linter.unusedVariables false
set_option linter.unusedSimpArgs false

attribute [local go_sem high] eqA85
/-! ### box_Meets: function 43 -/
set_option maxHeartbeats 8000000 in
set_option maxRecDepth 100000 in
theorem box_Meets_1.calls (k gp gq : Nat) (p0 p1 q0 q1 c0 c1 r : Int) (w : World) (hp : w.heap[gp]? = some (.cells #[.int .i64 p0, .int .i64 p1] 41 (0, 0))) (hq : w.heap[gq]? = some (.cells #[.int .i64 q0, .int .i64 q1] 41 (0, 0))) (h : point_Turn.f k p0 p1 q0 q1 c0 c1 = some r) :
  Calls Try.prog 88 #[.agg #[.int .i64 c0, .int .i64 c1], .pointer (some ⟨gp, 0, none⟩), .pointer (some ⟨gq, 0, none⟩)] w fun e w' => e = .returned (.int .i64 r) ∧ Below w.heap.size w w' := by
 have hu41 := Try.underlying41
 have HB := bA (Below.refl w.heap.size w)
 have BKp := bA hp
 have BKq := bA hq
 clear hp hq
 have A2 := bA h
 clear h
 go_enter Try.func88, Try.ntmps88
 go_wp2_with (first | ((with_reducible refine gate_dst (N := 3) rfl ?_); refine bE (N := 3) (cs := #[.int .i64 c0, .int .i64 c1]) (t := 41) ?_; intro gb140 hg w3 hbox hb; have BK140 := bA (hbox); replace BKp := bA (bB BKp hb); replace BKq := bA (bB BKq hb); replace HB := bA (bS hb); clear hb hbox hg; obtain ⟨hcz4_0, hcz4_1, hfz4_0, hfz4_1⟩ := bc2 BK140; obtain ⟨hp4_0, hp4_1, hpf4_0, hpf4_1⟩ := bc2 BKp; obtain ⟨hq4_0, hq4_1, hqf4_0, hqf4_1⟩ := bc2 BKq) | ((first | ((with_reducible refine gate_callee (f := 74) rfl ?_); refine bC (some 8) Try.func74 #[.agg #[.int .i64 p0, .int .i64 p1], .agg #[.int .i64 q0, .int .i64 q1], .agg #[.int .i64 c0, .int .i64 c1]] ?_) | go_at_call 74); (with_reducible refine (point_Turn.calls k p0 p1 q0 q1 c0 c1 r _ A2.out).mono ?_); rintro e w5 ⟨rfl, hb⟩; (first | refine ⟨_, rfl, ?_⟩ | skip); replace HB := bA (bS hb); (try clear hb)))
 go_ret
 exact bF
set_option maxHeartbeats 8000000 in
set_option maxRecDepth 100000 in
theorem box_Meets_2.calls (k gp gq gs gf : Nat) (p0 p1 q0 q1 s c0 c1 r : Int) {b : Bool} (w : World) (hp : w.heap[gp]? = some (.cells #[.int .i64 p0, .int .i64 p1] 41 (0, 0))) (hq : w.heap[gq]? = some (.cells #[.int .i64 q0, .int .i64 q1] 41 (0, 0)))
  (hs : w.heap[gs]? = some (.cells #[.func (.func 88) #[] #[.pointer (some ⟨gp, 0, none⟩), .pointer (some ⟨gq, 0, none⟩)]] 97 (0, 0))) (hf : w.heap[gf]? = some (.cells #[.int .i64 s] 3 (0, 0))) (h : point_Turn.f k p0 p1 q0 q1 c0 c1 = some r) (hrs : (r != s) = b) :
  Calls Try.prog 90 #[.agg #[.int .i64 c0, .int .i64 c1], .pointer (some ⟨gs, 0, none⟩), .pointer (some ⟨gf, 0, none⟩)] w fun e w' => e = .returned (.bool b) ∧ Below w.heap.size w w' := by
 subst hrs
 have hu41 := Try.underlying41
 have HB := bA (Below.refl w.heap.size w)
 have BKp := bA hp
 have BKq := bA hq
 have BKs := bA hs
 have BKf := bA hf
 clear hp hq hs hf
 have A2 := bA h
 clear h
 go_enter Try.func90, Try.ntmps90
 try go_wp2_with (first | ((with_reducible refine gate_dst (N := 3) rfl ?_); refine bE (N := 3) (cs := #[.int .i64 c0, .int .i64 c1]) (t := 41) ?_; intro gb140 hg w3 hbox hb; have BK140 := bA (hbox); replace BKp := bA (bB BKp hb); replace BKq := bA (bB BKq hb); replace BKs := bA (bB BKs hb); replace BKf := bA (bB BKf hb); replace HB := bA (bS hb); clear hb hbox hg))
 replace BK140 := bA (blk_drew BK140.out)
 replace BKp := bA (blk_drew BKp.out)
 replace BKq := bA (blk_drew BKq.out)
 replace BKs := bA (blk_drew BKs.out)
 replace BKf := bA (blk_drew BKf.out)
 replace HB := bA (below_drew1 HB.out)
 refine start_ (n := 6) (S := fun w' => w'.cell? ⟨gb140, 0, none⟩ = some (.int .i64 c0) ∧ w'.cell? ⟨gb140, 1, none⟩ = some (.int .i64 c1) ∧ w'.cell? ⟨gs, 0, none⟩ = some (.func (.func 88) #[] #[.pointer (some ⟨gp, 0, none⟩), .pointer (some ⟨gq, 0, none⟩)]) ∧ w'.cell? ⟨gf, 0, none⟩ = some (.int .i64 s)) (ds := []) #[false, false, false, false, false, false] (by kernel_rfl) rfl rfl ⟨bq BK140 0, bq BK140 1, bq BKs 0, bq BKf 0⟩ (fun hHeld => ?_)
 generalize w3.drew = w6 at BK140 BKp BKq BKs BKf HB hHeld ⊢
 refine take_ (i := 0) (N := some 5) (v := ?_) (a' := ?_) #[true, false, false, false, false, false] rfl rfl (by kernel_rfl) (fun _ _ _ h => h) (Or.inl ⟨by rfl, ?_⟩) hHeld ?_ ?_
 rotate_left
 ·rintro w' ⟨s0, s1, s2, s3⟩
  go_simp
  with_reducible rfl
 rotate_left
 ·simp only [Act.put, List.setIfInBounds_toArray, List.set_cons_zero, List.set_cons_succ, i64_w, i32_w]
  rfl
 refine take_ (i := 1) (N := some 6) (v := ?_) (a' := ?_) #[true, true, false, false, false, false] rfl rfl (by kernel_rfl) (fun _ _ _ h => h) (Or.inl ⟨by rfl, ?_⟩) hHeld ?_ ?_
 rotate_left
 ·rintro w' ⟨s0, s1, s2, s3⟩
  go_simp
  with_reducible rfl
 rotate_left
 ·simp only [Act.put, List.setIfInBounds_toArray, List.set_cons_zero, List.set_cons_succ, i64_w, i32_w]
  rfl
 refine take_ (i := 3) (N := some 8) (v := ?_) (a' := ?_) #[true, true, false, true, false, false] rfl rfl (by kernel_rfl) (fun _ _ _ h => h) (Or.inl ⟨by rfl, ?_⟩) hHeld ?_ ?_
 rotate_left
 ·rintro w' ⟨s0, s1, s2, s3⟩
  go_simp
  with_reducible rfl
 rotate_left
 ·simp only [Act.put, List.setIfInBounds_toArray, List.set_cons_zero, List.set_cons_succ, i64_w, i32_w]
  rfl
 refine one_ (i := 2) (N := some 7) #[true, true, true, true, false, false] rfl rfl (by kernel_rfl) (by decide) (fun K hK => ?_)
 refine call_ 88 #[.agg #[.int .i64 c0, .int .i64 c1], .pointer (some ⟨gp, 0, none⟩), .pointer (some ⟨gq, 0, none⟩)] (by rfl) rfl ?_ ?_
 ·have he := enters_ Try.func88 (by kernel_rfl) rfl #[.agg #[.int .i64 c0, .int .i64 c1], .pointer (some ⟨gp, 0, none⟩), .pointer (some ⟨gq, 0, none⟩)] w6
  unfold execOp
  simp [resolve, Deferred.ofValue, invoke, Act.eval, he]
 with_reducible refine (box_Meets_1.calls k gp gq p0 p1 q0 q1 c0 c1 r _ BKp.out BKq.out A2.out).mono ?_
 rintro e w7 ⟨rfl, hb⟩
 refine ⟨_, rfl, ?_⟩
 replace BK140 := bA (bB BK140 hb)
 replace BKs := bA (bB BKs hb)
 replace BKf := bA (bB BKf hb)
 replace HB := bA (bS hb)
 (try clear hb)
 refine hK.out _ _ ⟨bq BK140 0, bq BK140 1, bq BKs 0, bq BKf 0⟩ (fun hHeld => ?_)
 clear hK K
 refine bH ?_
 refine pure_ (i := 4) (N := some 9) (v := ?_) (a' := ?_) #[true, true, true, true, true, false] rfl rfl (by kernel_rfl) (fun _ _ _ h => h) (Or.inl ⟨by rfl, ?_⟩) ?_ ?_
 rotate_left
 ·intro w'
  go_simp
  with_reducible rfl
 rotate_left
 ·simp only [Act.put, List.setIfInBounds_toArray, List.set_cons_zero, List.set_cons_succ, i64_w, i32_w]
  rfl
 refine pure_ (i := 5) (N := some 4) (v := ?_) (a' := ?_) #[true, true, true, true, true, true] rfl rfl (by kernel_rfl) (fun _ _ _ h => h) (Or.inl ⟨by rfl, ?_⟩) ?_ ?_
 rotate_left
 ·intro w'
  go_simp
  with_reducible rfl
 rotate_left
 ·simp only [Act.put, List.setIfInBounds_toArray, List.set_cons_zero, List.set_cons_succ, i64_w, i32_w]
  rfl
 refine done_ (by kernel_rfl) ?_
 try go_wp2
 go_ret
 exact bF
theorem bL2 {W : World} {g g2 : Nat} {o : Obj} (h : W.heap[g]? = some o) (hg : g2 = W.heap.size) : g ≠ g2 := by rw [hg]; exact Nat.ne_of_lt (blk_lt h)
def box_Meets_2.l0 : Nat → List (S41) → Int → Int → Int → Int → Int → Int → Int → Option (Int)
 | 0, _, _, _, _, _, _, _, _ => none
 | k + 1, x0, p0, p1, q0, q1, s, x7, x8 => if x8 < x7 then (if 0 ≤ x8 then (if x8 < (x0.length : Int) then ((point_Turn.f k p0 p1 q0 q1 ((rd_T41 x0 x8).f0) ((rd_T41 x0 x8).f1)).bind fun t195 => (if (t195 != s) = true then (some x8) else (box_Meets_2.l0 k x0 p0 p1 q0 q1 s x7 (wrap64 (x8 + 1))))) else (none)) else (none)) else (some (-1))
theorem box_Meets_2.mono_l : ∀ k, (∀ y0 y1 y2 y3 y4 y5 y6 y7, LeO (box_Meets_2.l0 k y0 y1 y2 y3 y4 y5 y6 y7) (box_Meets_2.l0 (k + 1) y0 y1 y2 y3 y4 y5 y6 y7))
 | 0 => fun _ _ _ _ _ _ _ _ r h => by simp [box_Meets_2.l0] at h
 | k + 1 => by
  have ih0 := box_Meets_2.mono_l k
  intro y0 y1 y2 y3 y4 y5 y6 y7
  unfold box_Meets_2.l0
  repeat' first
   | (with_reducible exact ih0 _ _ _ _ _ _ _ _)
   | (with_reducible exact point_Turn.mono _ _ _ _ _ _ _)
   | (with_reducible exact LeO.refl _)
   | (with_reducible exact LeO.none _)
   | (with_reducible refine LeO.ite ?_ ?_)
   | (with_reducible refine LeO.bind ?_ (fun _ => ?_))
   | exact ih0 _ _ _ _ _ _ _ _
   | exact LeO.none _
   | refine LeO.ite ?_ ?_
   | refine LeO.bind ?_ (fun _ => ?_)
set_option maxHeartbeats 8000000 in
set_option maxRecDepth 100000 in
theorem box_Meets_2.index (k gp gq gs gf : Nat) (p0 p1 q0 q1 s : Int) (A0 : Option Addr) (c0 : Nat) (l0 : List (S41)) (r : Int) (w : World) (hp : w.heap[gp]? = some (.cells #[.int .i64 p0, .int .i64 p1] 41 (0, 0))) (hq : w.heap[gq]? = some (.cells #[.int .i64 q0, .int .i64 q1] 41 (0, 0)))
  (hs : w.heap[gs]? = some (.cells #[.func (.func 88) #[] #[.pointer (some ⟨gp, 0, none⟩), .pointer (some ⟨gq, 0, none⟩)]] 97 (0, 0))) (hf : w.heap[gf]? = some (.cells #[.int .i64 s] 3 (0, 0))) (hr0 : Kd.C k41 w A0 l0.length l0) (hc0 : l0.length ≤ c0) (h : box_Meets_2.l0 k l0 p0 p1 q0 q1 s (l0.length : Int) 0 = some r) :
  Calls Try.prog 102 #[.slice A0 l0.length c0, .func (.func 90) #[] #[.pointer (some ⟨gs, 0, none⟩), .pointer (some ⟨gf, 0, none⟩)]] w fun e w' => e = .returned (.int .i64 r) ∧ Below w.heap.size w w' := by
 have hu41 := Try.underlying41
 have HR0 := bA hr0
 have HC0 := bA hc0
 have Kp := bA hp
 have Kq := bA hq
 have Ks := bA hs
 have Kf := bA hf
 clear hr0 hc0 hp hq hs hf
 have HB := bA (Below.refl w.heap.size w)
 have H' := bA h
 clear h
 go_enter Try.func102, Try.ntmps102
 go_wp2
 go_loopg [8] k (fun kq v8 w' => ∃ (x8_1 : Int), v8 = .int .i64 x8_1 ∧ Aside0 (box_Meets_2.l0 kq l0 p0 p1 q0 q1 s (l0.length : Int) x8_1 = some r) ∧ Aside0 (kq ≤ k) ∧ Aside0 (Below w.heap.size w w'))
 case atStart => exact ⟨(0), bs, H', ⟨Nat.le_refl _⟩, ⟨bX⟩⟩
 case round =>
  clear H'
  obtain ⟨x8_1, rfl, HA, HK1, HB⟩ := hrel
  have BKp := bA (blk_below Kp.out HB.out)
  have BKq := bA (blk_below Kq.out HB.out)
  have BKs := bA (blk_below Ks.out HB.out)
  have BKf := bA (blk_below Kf.out HB.out)
  cases gk with
  | zero => exact absurd HA.out (by simp [box_Meets_2.l0])
  | succ k1 =>
   have H := HA.out
   clear HA
   simp only [box_Meets_2.l0] at H
   by_cases c3 : x8_1 < (l0.length : Int)
   ·rw [if_pos c3] at H
    have c3b0 : decide (x8_1 < (l0.length : Int)) = true := decide_eq_true c3
    clear c3
    by_cases c4 : 0 ≤ x8_1
    ·rw [if_pos c4] at H
     have c4b0 : decide (0 ≤ x8_1) = true := decide_eq_true c4
     clear c4
     rw [if_pos (of_decide_eq_true c3b0)] at H
     replace H := Option.bind_eq_some_iff.mp H
     obtain ⟨t195, A60, H⟩ := H
     have A6 := bA A60
     clear A60
     have p194 : 0 ≤ (x8_1 : Int) := bo
     have q194 : x8_1 < (l0.length : Int) := bo
     obtain ⟨ad194, e194, hx194_0, hx194_1⟩ := at_T41 HR0.out x8_1 p194 q194
     cases e194
     replace hx194_0 := bK hx194_0
     replace hx194_1 := bK hx194_1
     replace p194 := eq_true p194
     replace q194 := eq_true q194
     by_cases c7 : (t195 != s) = true
     ·have H1 : (some x8_1) = some r := by rw [if_pos c7] at H; exact H
      clear H
      obtain rfl := Option.some.inj H1
      clear H1
      go_wp2_with (first | (go_at_call 90; (with_reducible refine (box_Meets_2.calls k1 gp gq gs gf p0 p1 q0 q1 s ((rd_T41 l0 x8_1).f0) ((rd_T41 l0 x8_1).f1) t195 _ BKp.out BKq.out BKs.out BKf.out A6.out c7).mono ?_); rintro e w8 ⟨rfl, hb⟩; replace HB := bA (bS hb); (try clear hb)))
      go_ret
      exact bF
     ·replace c7 := Bool.eq_false_iff.mpr c7
      have H1 : (box_Meets_2.l0 k1 l0 p0 p1 q0 q1 s (l0.length : Int) (wrap64 (x8_1 + 1))) = some r := by rw [c7, if_neg bn] at H; exact H
      clear H
      have H' := bA H1
      clear H1
      go_wp2_with (first | (go_at_call 90; (with_reducible refine (box_Meets_2.calls k1 gp gq gs gf p0 p1 q0 q1 s ((rd_T41 l0 x8_1).f0) ((rd_T41 l0 x8_1).f1) t195 _ BKp.out BKq.out BKs.out BKf.out A6.out c7).mono ?_); rintro e w9 ⟨rfl, hb⟩; replace HB := bA (bS hb); (try clear hb)))
      go_roundg k1
      case measure => have := HK1.out; omega
      case rel => exact ⟨(wrap64 (x8_1 + 1)), bs, H', ⟨by have := HK1.out; omega⟩, ⟨bX⟩⟩
    ·rw [if_neg c4] at H
     exact absurd H (by simp)
   ·rw [if_neg c3] at H
    have c3b0 : decide (x8_1 < (l0.length : Int)) = false := decide_eq_false c3
    clear c3
    obtain rfl := Option.some.inj H
    go_wp2
    go_ret
    exact bF
def box_Meets_2.any (k : Nat) (l0 : List (S41)) (p0 p1 q0 q1 s : Int) : Option (Bool) := (box_Meets_2.l0 k l0 p0 p1 q0 q1 s (l0.length : Int) 0).bind fun t196 => (some (decide (t196 ≥ 0)))
set_option maxHeartbeats 8000000 in
set_option maxRecDepth 100000 in
theorem box_Meets_2.contains (k gp gq gs gf : Nat) (p0 p1 q0 q1 s : Int) (A0 : Option Addr) (c0 : Nat) (l0 : List (S41)) (r : Bool) (w : World) (hp : w.heap[gp]? = some (.cells #[.int .i64 p0, .int .i64 p1] 41 (0, 0))) (hq : w.heap[gq]? = some (.cells #[.int .i64 q0, .int .i64 q1] 41 (0, 0)))
  (hs : w.heap[gs]? = some (.cells #[.func (.func 88) #[] #[.pointer (some ⟨gp, 0, none⟩), .pointer (some ⟨gq, 0, none⟩)]] 97 (0, 0))) (hf : w.heap[gf]? = some (.cells #[.int .i64 s] 3 (0, 0))) (hr0 : Kd.C k41 w A0 l0.length l0) (hc0 : l0.length ≤ c0) (h : box_Meets_2.any k l0 p0 p1 q0 q1 s = some r) :
  Calls Try.prog 65 #[.slice A0 l0.length c0, .func (.func 90) #[] #[.pointer (some ⟨gs, 0, none⟩), .pointer (some ⟨gf, 0, none⟩)]] w fun e w' => e = .returned (.bool r) ∧ Below w.heap.size w w' := by
 have HR0 := bA hr0
 have HC0 := bA hc0
 have Kp := bA hp
 have Kq := bA hq
 have Ks := bA hs
 have Kf := bA hf
 clear hr0 hc0 hp hq hs hf
 have HB := bA (Below.refl w.heap.size w)
 unfold box_Meets_2.any at h
 replace h := Option.bind_eq_some_iff.mp h
 obtain ⟨t196, A30, H⟩ := h
 have A3 := bA A30
 clear A30
 obtain rfl := Option.some.inj H
 clear H
 go_enter Try.func65, Try.ntmps65
 go_wp2_with (first | (go_at_call 102; (with_reducible refine (box_Meets_2.index k gp gq gs gf p0 p1 q0 q1 s _ _ l0 t196 _ Kp.out Kq.out Ks.out Kf.out HR0.out HC0.out A3.out).mono ?_); rintro e w4 ⟨rfl, hb⟩; replace HB := bA (bS hb); (try clear hb)))
 go_ret
 exact bF
def box_Meets.f (k : Nat) (a0_0 : Int) (a0_1 : Int) (a0_2 : Int) (a0_3 : Int) (a1_0 : Int) (a1_1 : Int) (a2_0 : Int) (a2_1 : Int) : Option (Bool) :=
 (box_Right.f a0_0 a0_1 a0_2 a0_3).bind fun t1 => (if t1 = true then ((point_Right.f a1_0 a1_1).bind fun t2 => (if t2 = true then ((point_Right.f a2_0 a2_1).bind fun t3 => (if t3 = true then
  (if (mx a1_0 a2_0) < a0_0 then (some false) else (if (mn a1_0 a2_0) > a0_2 then (some false) else (if (mx a1_1 a2_1) < a0_1 then (some false) else (if (mn a1_1 a2_1) > a0_3 then (some false) else
   ((point_Turn.f k a1_0 a1_1 a2_0 a2_1 a0_0 a0_1).bind fun t4 => (if t4 = 0 then (some true) else ((box_Corners.f a0_0 a0_1 a0_2 a0_3).bind fun t5 => (box_Meets_2.any k t5 a1_0 a1_1 a2_0 a2_1 t4))))))))
  else (some false))) else (some false))) else (some false))
theorem box_Meets.mono : ∀ a0_0 a0_1 a0_2 a0_3 a1_0 a1_1 a2_0 a2_1 k, LeO (box_Meets.f k a0_0 a0_1 a0_2 a0_3 a1_0 a1_1 a2_0 a2_1) (box_Meets.f (k + 1) a0_0 a0_1 a0_2 a0_3 a1_0 a1_1 a2_0 a2_1) := by
 intro a0_0 a0_1 a0_2 a0_3 a1_0 a1_1 a2_0 a2_1 k
 unfold box_Meets.f box_Meets_2.any
 repeat' first
   | (with_reducible exact box_Meets_2.mono_l _ _ _ _ _ _ _ _ _)
   | (with_reducible exact point_Turn.mono _ _ _ _ _ _ _)
   | (with_reducible exact LeO.refl _)
   | (with_reducible exact LeO.none _)
   | (with_reducible refine LeO.ite ?_ ?_)
   | (with_reducible refine LeO.bind ?_ (fun _ => ?_))
   | exact LeO.none _
   | refine LeO.ite ?_ ?_
   | refine LeO.bind ?_ (fun _ => ?_)
set_option maxHeartbeats 8000000 in
set_option maxRecDepth 100000 in
theorem box_Meets.calls (k : Nat) (a0_0 : Int) (a0_1 : Int) (a0_2 : Int) (a0_3 : Int) (a1_0 : Int) (a1_1 : Int) (a2_0 : Int) (a2_1 : Int) (r : Bool) (w : World) (h : box_Meets.f k a0_0 a0_1 a0_2 a0_3 a1_0 a1_1 a2_0 a2_1 = some r) :
  Calls Try.prog 43 #[.agg #[.int .i64 a0_0, .int .i64 a0_1, .int .i64 a0_2, .int .i64 a0_3], .agg #[.int .i64 a1_0, .int .i64 a1_1], .agg #[.int .i64 a2_0, .int .i64 a2_1]] w fun e w' => e = .returned (.bool r) ∧ Below w.heap.size w w' := by
 have hu44 := Try.underlying44
 have hu41 := Try.underlying41
 have hmf : ∀ (fn : Fn) (first cap : Array Value) (w : World), (Instr.makeFunc fn first cap).run Try.prog w = .ok (.func fn first cap) w := fun _ _ _ _ => rfl
 have HB := bA (Below.refl w.heap.size w)
 unfold box_Meets.f at h
 replace h := Option.bind_eq_some_iff.mp h
 obtain ⟨t1, A10, H⟩ := h
 have A1 := bA A10
 clear A10
 by_cases c1 : t1 = true
 subst c1
 rw [if_pos rfl] at H
 replace H := Option.bind_eq_some_iff.mp H
 obtain ⟨t2, A20, H⟩ := H
 have A2 := bA A20
 clear A20
 by_cases c2 : t2 = true
 subst c2
 rw [if_pos rfl] at H
 replace H := Option.bind_eq_some_iff.mp H
 obtain ⟨t3, A30, H⟩ := H
 have A3 := bA A30
 clear A30
 by_cases c3 : t3 = true
 subst c3
 rw [if_pos rfl] at H
 obtain ⟨j0, hj0⟩ : ∃ j_ : Int, (mx a1_0 a2_0) = j_ := ⟨_, rfl⟩
 rw [hj0] at H
 have hj0_ : (if a1_0 < a2_0 then a2_0 else a1_0) = j0 := hj0
 clear hj0
 by_cases d0 : j0 < a0_0
 rotate_left
 rw [if_neg d0] at H
 have d0b : decide (j0 < a0_0) = false := decide_eq_false d0
 clear d0
 obtain ⟨j1, hj1⟩ : ∃ j_ : Int, (mn a1_0 a2_0) = j_ := ⟨_, rfl⟩
 rw [hj1] at H
 have hj1_ : (if a2_0 < a1_0 then a2_0 else a1_0) = j1 := hj1
 clear hj1
 by_cases d1 : j1 > a0_2
 rotate_left
 rw [if_neg d1] at H
 have d1b : decide (a0_2 < j1) = false := decide_eq_false d1
 clear d1
 obtain ⟨j2, hj2⟩ : ∃ j_ : Int, (mx a1_1 a2_1) = j_ := ⟨_, rfl⟩
 rw [hj2] at H
 have hj2_ : (if a1_1 < a2_1 then a2_1 else a1_1) = j2 := hj2
 clear hj2
 by_cases d2 : j2 < a0_1
 rotate_left
 rw [if_neg d2] at H
 have d2b : decide (j2 < a0_1) = false := decide_eq_false d2
 clear d2
 obtain ⟨j3, hj3⟩ : ∃ j_ : Int, (mn a1_1 a2_1) = j_ := ⟨_, rfl⟩
 rw [hj3] at H
 have hj3_ : (if a2_1 < a1_1 then a2_1 else a1_1) = j3 := hj3
 clear hj3
 by_cases d3 : j3 > a0_3
 rotate_left
 rw [if_neg d3] at H
 have d3b : decide (a0_3 < j3) = false := decide_eq_false d3
 clear d3
 replace H := Option.bind_eq_some_iff.mp H
 obtain ⟨t4, A40, H⟩ := H
 have A4 := bA A40
 clear A40
 by_cases c4 : t4 = 0
 rw [if_pos c4] at H
 have c4b : (t4 == 0) = true := beq_iff_eq.mpr c4
 clear c4
 obtain rfl := Option.some.inj H
 rotate_left
 rw [if_neg c4] at H
 have c4b : (t4 == 0) = false := beq_eq_false_iff_ne.mpr c4
 clear c4
 replace H := Option.bind_eq_some_iff.mp H
 obtain ⟨t5, A50, A60⟩ := H
 have A5 := bA A50
 have A6 := bA A60
 clear A50 A60
 rotate_left
 replace c3 := Bool.eq_false_iff.mpr c3
 subst c3
 rw [if_neg bn] at H
 obtain rfl := Option.some.inj H
 rotate_left
 replace c2 := Bool.eq_false_iff.mpr c2
 subst c2
 rw [if_neg bn] at H
 obtain rfl := Option.some.inj H
 rotate_left
 replace c1 := Bool.eq_false_iff.mpr c1
 subst c1
 rw [if_neg bn] at H
 obtain rfl := Option.some.inj H
 rotate_left
 rw [if_pos d0] at H
 have d0b : decide (j0 < a0_0) = true := decide_eq_true d0
 clear d0
 obtain rfl := Option.some.inj H
 rotate_left
 rw [if_pos d1] at H
 have d1b : decide (a0_2 < j1) = true := decide_eq_true d1
 clear d1
 obtain rfl := Option.some.inj H
 rotate_left
 rw [if_pos d2] at H
 have d2b : decide (j2 < a0_1) = true := decide_eq_true d2
 clear d2
 obtain rfl := Option.some.inj H
 rotate_left
 rw [if_pos d3] at H
 have d3b : decide (a0_3 < j3) = true := decide_eq_true d3
 clear d3
 obtain rfl := Option.some.inj H
 rotate_left
 all_goals go_enter Try.func43, Try.ntmps43
 all_goals go_wp2_with (first | ((with_reducible refine gate_dst (N := 3) rfl ?_); refine bE (N := 3) (cs := #[.int .i64 a0_0, .int .i64 a0_1, .int .i64 a0_2, .int .i64 a0_3]) (t := 44) ?_; intro gb hg wb hbox hb; have BKb := bA (hbox); have GEb := bA (bZ hg);  replace HB := bA (bS hb); clear hb hbox hg;   skip) | ((with_reducible refine gate_dst (N := 4) rfl ?_); refine bE (N := 4) (cs := #[.int .i64 a1_0, .int .i64 a1_1]) (t := 41) ?_; intro gp hg wp hbox hb; have BKp := bA (hbox); have GEp := bA (bZ hg); have Nbp := bA (bL2 (bP (o := .cells #[.int .i64 a0_0, .int .i64 a0_1, .int .i64 a0_2, .int .i64 a0_3] 44 (0, 0)) BKb) hg); have Npb := bA (fun e_ => Nbp.out (Eq.symm e_)); replace BKb := bA (blk_below (bP (o := .cells #[.int .i64 a0_0, .int .i64 a0_1, .int .i64 a0_2, .int .i64 a0_3] 44 (0, 0)) BKb) hb); replace HB := bA (bS hb); clear hb hbox hg; have nbp := Nbp.out; have npb := Npb.out;   skip) | ((with_reducible refine gate_dst (N := 5) rfl ?_); refine bE (N := 5) (cs := #[.int .i64 a2_0, .int .i64 a2_1]) (t := 41) ?_; intro gq hg wq hbox hb; have BKq := bA (hbox); have GEq := bA (bZ hg); have Nbq := bA (bL2 (bP (o := .cells #[.int .i64 a0_0, .int .i64 a0_1, .int .i64 a0_2, .int .i64 a0_3] 44 (0, 0)) BKb) hg); have Nqb := bA (fun e_ => Nbq.out (Eq.symm e_)); have Npq := bA (bL2 (bP (o := .cells #[.int .i64 a1_0, .int .i64 a1_1] 41 (0, 0)) BKp) hg); have Nqp := bA (fun e_ => Npq.out (Eq.symm e_)); replace BKb := bA (blk_below (bP (o := .cells #[.int .i64 a0_0, .int .i64 a0_1, .int .i64 a0_2, .int .i64 a0_3] 44 (0, 0)) BKb) hb); replace BKp := bA (blk_below (bP (o := .cells #[.int .i64 a1_0, .int .i64 a1_1] 41 (0, 0)) BKp) hb); replace HB := bA (bS hb); clear hb hbox hg; have nbq := Nbq.out; have nqb := Nqb.out; have npq := Npq.out; have nqp := Nqp.out;  obtain ⟨zb0, zb1, zb2, zb3, yb0, yb1, yb2, yb3⟩ := bc4 BKb; obtain ⟨zp0, zp1, yp0, yp1⟩ := bc2 BKp; obtain ⟨zq0, zq1, yq0, yq1⟩ := bc2 BKq; skip) | (go_at_call 87; (with_reducible refine (box_Right.calls a0_0 a0_1 a0_2 a0_3 true _ A1.out).mono ?_); rintro e w_ ⟨rfl, hb⟩; replace BKb := bA (blk_below (bP (o := .cells #[.int .i64 a0_0, .int .i64 a0_1, .int .i64 a0_2, .int .i64 a0_3] 44 (0, 0)) BKb) hb); replace BKp := bA (blk_below (bP (o := .cells #[.int .i64 a1_0, .int .i64 a1_1] 41 (0, 0)) BKp) hb); replace BKq := bA (blk_below (bP (o := .cells #[.int .i64 a2_0, .int .i64 a2_1] 41 (0, 0)) BKq) hb); replace HB := bA (bS hb); (try clear hb); obtain ⟨zb0, zb1, zb2, zb3, yb0, yb1, yb2, yb3⟩ := bc4 BKb; obtain ⟨zp0, zp1, yp0, yp1⟩ := bc2 BKp; obtain ⟨zq0, zq1, yq0, yq1⟩ := bc2 BKq; skip) | (go_at_call 67; (with_reducible refine (point_Right.calls a1_0 a1_1 true _ A2.out).mono ?_); rintro e w_ ⟨rfl, hb⟩; replace BKb := bA (blk_below (bP (o := .cells #[.int .i64 a0_0, .int .i64 a0_1, .int .i64 a0_2, .int .i64 a0_3] 44 (0, 0)) BKb) hb); replace BKp := bA (blk_below (bP (o := .cells #[.int .i64 a1_0, .int .i64 a1_1] 41 (0, 0)) BKp) hb); replace BKq := bA (blk_below (bP (o := .cells #[.int .i64 a2_0, .int .i64 a2_1] 41 (0, 0)) BKq) hb); replace HB := bA (bS hb); (try clear hb); obtain ⟨zb0, zb1, zb2, zb3, yb0, yb1, yb2, yb3⟩ := bc4 BKb; obtain ⟨zp0, zp1, yp0, yp1⟩ := bc2 BKp; obtain ⟨zq0, zq1, yq0, yq1⟩ := bc2 BKq; skip) | (go_at_call 67; (with_reducible refine (point_Right.calls a2_0 a2_1 true _ A3.out).mono ?_); rintro e w_ ⟨rfl, hb⟩; replace BKb := bA (blk_below (bP (o := .cells #[.int .i64 a0_0, .int .i64 a0_1, .int .i64 a0_2, .int .i64 a0_3] 44 (0, 0)) BKb) hb); replace BKp := bA (blk_below (bP (o := .cells #[.int .i64 a1_0, .int .i64 a1_1] 41 (0, 0)) BKp) hb); replace BKq := bA (blk_below (bP (o := .cells #[.int .i64 a2_0, .int .i64 a2_1] 41 (0, 0)) BKq) hb); replace HB := bA (bS hb); (try clear hb); obtain ⟨zb0, zb1, zb2, zb3, yb0, yb1, yb2, yb3⟩ := bc4 BKb; obtain ⟨zp0, zp1, yp0, yp1⟩ := bc2 BKp; obtain ⟨zq0, zq1, yq0, yq1⟩ := bc2 BKq; skip) | (go_at_call 87; (with_reducible refine (box_Right.calls a0_0 a0_1 a0_2 a0_3 false _ A1.out).mono ?_); rintro e w_ ⟨rfl, hb⟩; replace BKb := bA (blk_below (bP (o := .cells #[.int .i64 a0_0, .int .i64 a0_1, .int .i64 a0_2, .int .i64 a0_3] 44 (0, 0)) BKb) hb); replace BKp := bA (blk_below (bP (o := .cells #[.int .i64 a1_0, .int .i64 a1_1] 41 (0, 0)) BKp) hb); replace BKq := bA (blk_below (bP (o := .cells #[.int .i64 a2_0, .int .i64 a2_1] 41 (0, 0)) BKq) hb); replace HB := bA (bS hb); (try clear hb); obtain ⟨zb0, zb1, zb2, zb3, yb0, yb1, yb2, yb3⟩ := bc4 BKb; obtain ⟨zp0, zp1, yp0, yp1⟩ := bc2 BKp; obtain ⟨zq0, zq1, yq0, yq1⟩ := bc2 BKq; skip) | (go_at_call 67; (with_reducible refine (point_Right.calls a1_0 a1_1 false _ A2.out).mono ?_); rintro e w_ ⟨rfl, hb⟩; replace BKb := bA (blk_below (bP (o := .cells #[.int .i64 a0_0, .int .i64 a0_1, .int .i64 a0_2, .int .i64 a0_3] 44 (0, 0)) BKb) hb); replace BKp := bA (blk_below (bP (o := .cells #[.int .i64 a1_0, .int .i64 a1_1] 41 (0, 0)) BKp) hb); replace BKq := bA (blk_below (bP (o := .cells #[.int .i64 a2_0, .int .i64 a2_1] 41 (0, 0)) BKq) hb); replace HB := bA (bS hb); (try clear hb); obtain ⟨zb0, zb1, zb2, zb3, yb0, yb1, yb2, yb3⟩ := bc4 BKb; obtain ⟨zp0, zp1, yp0, yp1⟩ := bc2 BKp; obtain ⟨zq0, zq1, yq0, yq1⟩ := bc2 BKq; skip) | (go_at_call 67; (with_reducible refine (point_Right.calls a2_0 a2_1 false _ A3.out).mono ?_); rintro e w_ ⟨rfl, hb⟩; replace BKb := bA (blk_below (bP (o := .cells #[.int .i64 a0_0, .int .i64 a0_1, .int .i64 a0_2, .int .i64 a0_3] 44 (0, 0)) BKb) hb); replace BKp := bA (blk_below (bP (o := .cells #[.int .i64 a1_0, .int .i64 a1_1] 41 (0, 0)) BKp) hb); replace BKq := bA (blk_below (bP (o := .cells #[.int .i64 a2_0, .int .i64 a2_1] 41 (0, 0)) BKq) hb); replace HB := bA (bS hb); (try clear hb); obtain ⟨zb0, zb1, zb2, zb3, yb0, yb1, yb2, yb3⟩ := bc4 BKb; obtain ⟨zp0, zp1, yp0, yp1⟩ := bc2 BKp; obtain ⟨zq0, zq1, yq0, yq1⟩ := bc2 BKq; skip) | ((with_reducible refine gate_dst (N := 7) rfl ?_); refine bE (N := 7) (cs := #[.nilFunc]) (t := 97) ?_; intro gs hg ws hbox hb; have BKs := bA (hbox); have GEs := bA (bZ hg); have Nbs := bA (bL2 (bP (o := .cells #[.int .i64 a0_0, .int .i64 a0_1, .int .i64 a0_2, .int .i64 a0_3] 44 (0, 0)) BKb) hg); have Nsb := bA (fun e_ => Nbs.out (Eq.symm e_)); have Nps := bA (bL2 (bP (o := .cells #[.int .i64 a1_0, .int .i64 a1_1] 41 (0, 0)) BKp) hg); have Nsp := bA (fun e_ => Nps.out (Eq.symm e_)); have Nqs := bA (bL2 (bP (o := .cells #[.int .i64 a2_0, .int .i64 a2_1] 41 (0, 0)) BKq) hg); have Nsq := bA (fun e_ => Nqs.out (Eq.symm e_)); replace BKb := bA (blk_below (bP (o := .cells #[.int .i64 a0_0, .int .i64 a0_1, .int .i64 a0_2, .int .i64 a0_3] 44 (0, 0)) BKb) hb); replace BKp := bA (blk_below (bP (o := .cells #[.int .i64 a1_0, .int .i64 a1_1] 41 (0, 0)) BKp) hb); replace BKq := bA (blk_below (bP (o := .cells #[.int .i64 a2_0, .int .i64 a2_1] 41 (0, 0)) BKq) hb); replace HB := bA (bS hb); clear hb hbox hg; have nbs := Nbs.out; have nsb := Nsb.out; have nps := Nps.out; have nsp := Nsp.out; have nqs := Nqs.out; have nsq := Nsq.out;  obtain ⟨zb0, zb1, zb2, zb3, yb0, yb1, yb2, yb3⟩ := bc4 BKb; obtain ⟨zp0, zp1, yp0, yp1⟩ := bc2 BKp; obtain ⟨zq0, zq1, yq0, yq1⟩ := bc2 BKq; obtain ⟨zs0, ys0⟩ := bc1 BKs; skip) | (go_at_call 88; (with_reducible refine (box_Meets_1.calls k gp gq a1_0 a1_1 a2_0 a2_1 a0_0 a0_1 t4 _ ?sp ?sq A4.out).mono ?_); (case sp => exact bP BKp); (case sq => exact bP BKq); rintro e w_ ⟨rfl, hb⟩; replace BKb := bA (blk_below (bP (o := .cells #[.int .i64 a0_0, .int .i64 a0_1, .int .i64 a0_2, .int .i64 a0_3] 44 (0, 0)) BKb) hb); replace BKp := bA (blk_below (bP (o := .cells #[.int .i64 a1_0, .int .i64 a1_1] 41 (0, 0)) BKp) hb); replace BKq := bA (blk_below (bP (o := .cells #[.int .i64 a2_0, .int .i64 a2_1] 41 (0, 0)) BKq) hb); replace BKs := bA (blk_below (blk_put (cs := #[.nilFunc]) BKs.out 0 _ rfl) hb); replace HB := bA (bS hb); (try clear hb); obtain ⟨zb0, zb1, zb2, zb3, yb0, yb1, yb2, yb3⟩ := bc4 BKb; obtain ⟨zp0, zp1, yp0, yp1⟩ := bc2 BKp; obtain ⟨zq0, zq1, yq0, yq1⟩ := bc2 BKq; obtain ⟨zs0, ys0⟩ := bc1 BKs; skip) | ((with_reducible refine gate_dst (N := 8) rfl ?_); refine bE (N := 8) (cs := #[.int .i64 0]) (t := 3) ?_; intro gf hg wf hbox hb; have BKf := bA (hbox); have GEf := bA (bZ hg); have Nbf := bA (bL2 (bP (o := .cells #[.int .i64 a0_0, .int .i64 a0_1, .int .i64 a0_2, .int .i64 a0_3] 44 (0, 0)) BKb) hg); have Nfb := bA (fun e_ => Nbf.out (Eq.symm e_)); have Npf := bA (bL2 (bP (o := .cells #[.int .i64 a1_0, .int .i64 a1_1] 41 (0, 0)) BKp) hg); have Nfp := bA (fun e_ => Npf.out (Eq.symm e_)); have Nqf := bA (bL2 (bP (o := .cells #[.int .i64 a2_0, .int .i64 a2_1] 41 (0, 0)) BKq) hg); have Nfq := bA (fun e_ => Nqf.out (Eq.symm e_)); have Nsf := bA (bL2 (bP (o := .cells #[.func (.func 88) #[] #[.pointer (some ⟨gp, 0, none⟩), .pointer (some ⟨gq, 0, none⟩)]] 97 (0, 0)) BKs) hg); have Nfs := bA (fun e_ => Nsf.out (Eq.symm e_)); replace BKb := bA (blk_below (bP (o := .cells #[.int .i64 a0_0, .int .i64 a0_1, .int .i64 a0_2, .int .i64 a0_3] 44 (0, 0)) BKb) hb); replace BKp := bA (blk_below (bP (o := .cells #[.int .i64 a1_0, .int .i64 a1_1] 41 (0, 0)) BKp) hb); replace BKq := bA (blk_below (bP (o := .cells #[.int .i64 a2_0, .int .i64 a2_1] 41 (0, 0)) BKq) hb); replace BKs := bA (blk_below (bP (o := .cells #[.func (.func 88) #[] #[.pointer (some ⟨gp, 0, none⟩), .pointer (some ⟨gq, 0, none⟩)]] 97 (0, 0)) BKs) hb); replace HB := bA (bS hb); clear hb hbox hg; have nbf := Nbf.out; have nfb := Nfb.out; have npf := Npf.out; have nfp := Nfp.out; have nqf := Nqf.out; have nfq := Nfq.out; have nsf := Nsf.out; have nfs := Nfs.out;  obtain ⟨zb0, zb1, zb2, zb3, yb0, yb1, yb2, yb3⟩ := bc4 BKb; obtain ⟨zp0, zp1, yp0, yp1⟩ := bc2 BKp; obtain ⟨zq0, zq1, yq0, yq1⟩ := bc2 BKq; obtain ⟨zs0, ys0⟩ := bc1 BKs; obtain ⟨zf0, yf0⟩ := bc1 BKf; skip) | (go_at_call 89; (with_reducible refine (box_Corners.calls a0_0 a0_1 a0_2 a0_3 t5 _ A5.out).mono ?_); rintro e w_ ⟨v_, rfl, ho, hb⟩; obtain ⟨Al, cl, rfl, hcl, hC⟩ := Kd.R_reads ho; replace BKb := bA (blk_below (bP (o := .cells #[.int .i64 a0_0, .int .i64 a0_1, .int .i64 a0_2, .int .i64 a0_3] 44 (0, 0)) BKb) hb); replace BKp := bA (blk_below (bP (o := .cells #[.int .i64 a1_0, .int .i64 a1_1] 41 (0, 0)) BKp) hb); replace BKq := bA (blk_below (bP (o := .cells #[.int .i64 a2_0, .int .i64 a2_1] 41 (0, 0)) BKq) hb); replace BKs := bA (blk_below (bP (o := .cells #[.func (.func 88) #[] #[.pointer (some ⟨gp, 0, none⟩), .pointer (some ⟨gq, 0, none⟩)]] 97 (0, 0)) BKs) hb); replace BKf := bA (blk_below (blk_put (cs := #[.int .i64 0]) BKf.out 0 _ rfl) hb); replace HB := bA (bS hb); (try clear hb); obtain ⟨zb0, zb1, zb2, zb3, yb0, yb1, yb2, yb3⟩ := bc4 BKb; obtain ⟨zp0, zp1, yp0, yp1⟩ := bc2 BKp; obtain ⟨zq0, zq1, yq0, yq1⟩ := bc2 BKq; obtain ⟨zs0, ys0⟩ := bc1 BKs; obtain ⟨zf0, yf0⟩ := bc1 BKf; skip) | (go_at_call 65; (with_reducible refine (box_Meets_2.contains k gp gq gs gf a1_0 a1_1 a2_0 a2_1 t4 _ _ t5 r _ ?sp ?sq ?ss ?sf hC hcl A6.out).mono ?_); (case sp => exact bP BKp); (case sq => exact bP BKq); (case ss => exact bP BKs); (case sf => exact bP BKf); rintro e w_ ⟨rfl, hb⟩;  replace HB := bA (bS hb); (try clear hb);  skip))
 all_goals (go_ret; exact bF)
/-! ### apogeelaw12_of: function 92 -/
def apogeelaw12_of.f (a0 : Int) (a1 : Int) (a2 : Int) (a3 : Int) : Option (Int × Int × Int × Int) := some (a0, a1, a2, a3)
set_option maxHeartbeats 8000000 in
set_option maxRecDepth 100000 in
theorem apogeelaw12_of.calls (a0 : Int) (a1 : Int) (a2 : Int) (a3 : Int) (r1 : Int) (r2 : Int) (r3 : Int) (r4 : Int) (w : World) (h : apogeelaw12_of.f a0 a1 a2 a3 = some (r1, r2, r3, r4)) :
  Calls Try.prog 92 #[.int .i64 a0, .int .i64 a1, .int .i64 a2, .int .i64 a3] w fun e w' => e = .returned (.agg #[.int .i64 r1, .int .i64 r2, .int .i64 r3, .int .i64 r4]) ∧ Below w.heap.size w w' := by
 have hu44 := Try.underlying44
 have hu41 := Try.underlying41
 have HB := bA (Below.refl w.heap.size w)
 have H : (some (a0, a1, a2, a3)) = some (r1, r2, r3, r4) := h
 clear h
 simp only [Option.some.injEq, Prod.mk.injEq] at H
 obtain ⟨rfl, rfl, rfl, rfl⟩ := H
 go_enter Try.func92, Try.ntmps92
 go_wp2_with (first | ((with_reducible refine gate_dst (N := 8) rfl ?_); refine bE (N := 8) (cs := #[.int .i64 0, .int .i64 0, .int .i64 0, .int .i64 0]) (t := 44) ?_; intro gb146 hg w5 hbox hb; have BK146 := bA (hbox); have GW146 := bA (bZ hg); have GE146 := bA (bZ hg); replace HB := bA (bS hb); clear hb hbox hg; obtain ⟨hcz6_0, hcz6_1, hcz6_2, hcz6_3, hfz6_0, hfz6_1, hfz6_2, hfz6_3⟩ := bc4 BK146))
 refine bodyPost_ret (results_cell_row rfl _ _ gb146 44 #[.int .i64 a0, .int .i64 a1, .int .i64 a2, .int .i64 a3] (0, 0) _ rfl (by (with_reducible repeat (first | refine blk_drewN ?_ _ | refine blk_drew ?_ | refine blk_alloc ?_ _)); refine blk_put (cs := #[.int .i64 a0, .int .i64 a1, .int .i64 a2, .int .i64 0]) ?_ 3 _ rfl; (with_reducible repeat (first | refine blk_drewN ?_ _ | refine blk_drew ?_ | refine blk_alloc ?_ _)); refine blk_put (cs := #[.int .i64 a0, .int .i64 a1, .int .i64 0, .int .i64 0]) ?_ 2 _ rfl; (with_reducible repeat (first | refine blk_drewN ?_ _ | refine blk_drew ?_ | refine blk_alloc ?_ _)); refine blk_put (cs := #[.int .i64 a0, .int .i64 0, .int .i64 0, .int .i64 0]) ?_ 1 _ rfl; (with_reducible repeat (first | refine blk_drewN ?_ _ | refine blk_drew ?_ | refine blk_alloc ?_ _)); refine blk_put (cs := #[.int .i64 0, .int .i64 0, .int .i64 0, .int .i64 0]) ?_ 0 _ rfl; (with_reducible repeat (first | refine blk_drewN ?_ _ | refine blk_drew ?_ | refine blk_alloc ?_ _)); exact BK146.out) Try.underlying44 rfl (by kernel_rfl)) rfl ?_
 exact bF
/-! ### wide_Of: function 121 -/
def wide_Of.f (a0 : Int) : Option (Int × Int) := some (a0 / 9223372036854775808, IntKind.u64.wrap (a0))
set_option maxHeartbeats 8000000 in
set_option maxRecDepth 100000 in
theorem wide_Of.calls (a0 : Int) (r1 : Int) (r2 : Int) (w : World) (h : wide_Of.f a0 = some (r1, r2)) :
  Calls Try.prog 121 #[.int .i64 a0] w fun e w' => e = .returned (.agg #[.int .i64 r1, .int .u64 r2]) ∧ Below w.heap.size w w' := by
 have hu85 := Try.underlying85
 have HB := bA (Below.refl w.heap.size w)
 have H : (some (a0 / 9223372036854775808, IntKind.u64.wrap (a0))) = some (r1, r2) := h
 clear h
 simp only [Option.some.injEq, Prod.mk.injEq] at H
 obtain ⟨rfl, rfl⟩ := H
 go_enter Try.func121, Try.ntmps121
 go_wp2_with (first | ((with_reducible refine gate_dst (N := 2) rfl ?_); refine bE (N := 2) (cs := #[.int .i64 0, .int .u64 0]) (t := 85) ?_; intro gb147 hg w2 hbox hb; have BK147 := bA (hbox); have GW147 := bA (bZ hg); have GE147 := bA (bZ hg); replace HB := bA (bS hb); clear hb hbox hg; obtain ⟨hcz3_0, hcz3_1, hfz3_0, hfz3_1⟩ := bc2 BK147))
 refine bodyPost_ret (results_cell_row rfl _ _ gb147 85 #[.int .i64 (a0 / 9223372036854775808), .int .u64 (IntKind.u64.wrap (a0))] (0, 0) _ rfl (by (with_reducible repeat (first | refine blk_drewN ?_ _ | refine blk_drew ?_ | refine blk_alloc ?_ _)); refine blk_put (cs := #[.int .i64 (a0 / 9223372036854775808), .int .u64 0]) ?_ 1 _ rfl; (with_reducible repeat (first | refine blk_drewN ?_ _ | refine blk_drew ?_ | refine blk_alloc ?_ _)); refine blk_put (cs := #[.int .i64 0, .int .u64 0]) ?_ 0 _ rfl; (with_reducible repeat (first | refine blk_drewN ?_ _ | refine blk_drew ?_ | refine blk_alloc ?_ _)); exact BK147.out) Try.underlying85 rfl (by kernel_rfl)) rfl ?_
 exact bF
/-! ### wide_Wide_Add: function 76 -/
def wide_Wide_Add.f (a0_0 : Int) (a0_1 : Int) (a1_0 : Int) (a1_1 : Int) : Option (Int × Int × Bool) := if (add64c a0_1 a1_1 0) ≤ 1 then (if (Go.bits .and .i64 (Go.bits .xor .i64 a0_0 (wrap64 (add64s (IntKind.u64.wrap (a0_0)) (IntKind.u64.wrap (a1_0)) (add64c a0_1 a1_1 0)))) (Go.bits .xor .i64 a1_0 (wrap64 (add64s (IntKind.u64.wrap (a0_0)) (IntKind.u64.wrap (a1_0)) (add64c a0_1 a1_1 0))))) < 0 then (some (0, 0, false)) else (some (wrap64 (add64s (IntKind.u64.wrap (a0_0)) (IntKind.u64.wrap (a1_0)) (add64c a0_1 a1_1 0)), add64s a0_1 a1_1 0, true))) else (none)
set_option maxHeartbeats 8000000 in
set_option maxRecDepth 100000 in
theorem wide_Wide_Add.calls (a0_0 : Int) (a0_1 : Int) (a1_0 : Int) (a1_1 : Int) (r1 : Int) (r2 : Int) (r3 : Bool) (w : World) (h : wide_Wide_Add.f a0_0 a0_1 a1_0 a1_1 = some (r1, r2, r3)) :
  Calls Try.prog 76 #[.agg #[.int .i64 a0_0, .int .u64 a0_1], .agg #[.int .i64 a1_0, .int .u64 a1_1]] w fun e w' => e = .returned (.tuple #[.agg #[.int .i64 r1, .int .u64 r2], .bool r3]) ∧ Below w.heap.size w w' := by
 have hu85 := Try.underlying85
 have HB := bA (Below.refl w.heap.size w)
 have H : (if (add64c a0_1 a1_1 0) ≤ 1 then (if (Go.bits .and .i64 (Go.bits .xor .i64 a0_0 (wrap64 (add64s (IntKind.u64.wrap (a0_0)) (IntKind.u64.wrap (a1_0)) (add64c a0_1 a1_1 0)))) (Go.bits .xor .i64 a1_0 (wrap64 (add64s (IntKind.u64.wrap (a0_0)) (IntKind.u64.wrap (a1_0)) (add64c a0_1 a1_1 0))))) < 0 then (some (0, 0, false)) else (some (wrap64 (add64s (IntKind.u64.wrap (a0_0)) (IntKind.u64.wrap (a1_0)) (add64c a0_1 a1_1 0)), add64s a0_1 a1_1 0, true))) else (none)) = some (r1, r2, r3) := h
 clear h
 by_cases c3 : (add64c a0_1 a1_1 0) ≤ 1
 rw [if_pos c3] at H
 have c3b0 : decide ((add64c a0_1 a1_1 0) ≤ 1) = true := decide_eq_true c3
 clear c3
 by_cases c4 : (Go.bits .and .i64 (Go.bits .xor .i64 a0_0 (wrap64 (add64s (IntKind.u64.wrap (a0_0)) (IntKind.u64.wrap (a1_0)) (add64c a0_1 a1_1 0)))) (Go.bits .xor .i64 a1_0 (wrap64 (add64s (IntKind.u64.wrap (a0_0)) (IntKind.u64.wrap (a1_0)) (add64c a0_1 a1_1 0))))) < 0
 rw [if_pos c4] at H
 have c4b0 : decide ((Go.bits .and .i64 (Go.bits .xor .i64 a0_0 (wrap64 (add64s (IntKind.u64.wrap (a0_0)) (IntKind.u64.wrap (a1_0)) (add64c a0_1 a1_1 0)))) (Go.bits .xor .i64 a1_0 (wrap64 (add64s (IntKind.u64.wrap (a0_0)) (IntKind.u64.wrap (a1_0)) (add64c a0_1 a1_1 0))))) < 0) = true := decide_eq_true c4
 clear c4
 simp only [Option.some.injEq, Prod.mk.injEq] at H
 obtain ⟨rfl, rfl, rfl⟩ := H
 rotate_left
 rw [if_neg c4] at H
 have c4b0 : decide ((Go.bits .and .i64 (Go.bits .xor .i64 a0_0 (wrap64 (add64s (IntKind.u64.wrap (a0_0)) (IntKind.u64.wrap (a1_0)) (add64c a0_1 a1_1 0)))) (Go.bits .xor .i64 a1_0 (wrap64 (add64s (IntKind.u64.wrap (a0_0)) (IntKind.u64.wrap (a1_0)) (add64c a0_1 a1_1 0))))) < 0) = false := decide_eq_false c4
 clear c4
 simp only [Option.some.injEq, Prod.mk.injEq] at H
 obtain ⟨rfl, rfl, rfl⟩ := H
 rotate_left
 rw [if_neg c3] at H
 exact absurd H (by simp)
 all_goals go_enter Try.func76, Try.ntmps76
 all_goals go_wp2_with (first | ((with_reducible refine gate_dst (N := 2) rfl ?_); refine bE (N := 2) (cs := #[.int .i64 a0_0, .int .u64 a0_1]) (t := 85) ?_; intro gb148 hg wz0 hbox hb; have BK148 := bA (hbox); have GW148 := bA (bZ hg); have GE148 := bA (bZ hg); replace HB := bA (bS hb); clear hb hbox hg) | ((with_reducible refine gate_dst (N := 3) rfl ?_); refine bE (N := 3) (cs := #[.int .i64 a1_0, .int .u64 a1_1]) (t := 85) ?_; intro gb149 hg wz1 hbox hb; have BK149 := bA (hbox); have GW149 := bA (bZ hg); have GE149 := bA (bZ hg); have NB148_149 := bA (bL BK148 hg); have NB149_148 := bA (bG BK148 hg); replace BK148 := bA (bB BK148 hb); replace HB := bA (bS hb); clear hb hbox hg) | ((with_reducible refine gate_dst (N := 4) rfl ?_); refine bE (N := 4) (cs := #[.int .i64 0, .int .u64 0]) (t := 85) ?_; intro gb150 hg wz2 hbox hb; have BK150 := bA (hbox); have GW150 := bA (bZ hg); have GE150 := bA (bZ hg); have NB148_150 := bA (bL BK148 hg); have NB150_148 := bA (bG BK148 hg); have NB149_150 := bA (bL BK149 hg); have NB150_149 := bA (bG BK149 hg); replace BK148 := bA (bB BK148 hb); replace BK149 := bA (bB BK149 hb); replace HB := bA (bS hb); clear hb hbox hg; have hz1 := NB148_149.out; have hz2 := NB149_148.out; have hz3 := NB148_150.out; have hz4 := NB150_148.out; obtain ⟨hz5, hz6, hz7, hz8⟩ := bc2 BK148; have hz9 := NB149_150.out; have hz10 := NB150_149.out; obtain ⟨hz11, hz12, hz13, hz14⟩ := bc2 BK149) | ((with_reducible refine gate_dst (N := 10) rfl ?_); refine bE (N := 10) (cs := #[.int .i64 0, .int .u64 0]) (t := 85) ?_; intro gb151 hg wz3 hbox hb; have BK151 := bA (hbox); have GW151 := bA (bZ hg); have GE151 := bA (bZ hg); have NB148_151 := bA (bL BK148 hg); have NB151_148 := bA (bG BK148 hg); have NB149_151 := bA (bL BK149 hg); have NB151_149 := bA (bG BK149 hg); have NB150_151 := bA (bL BK150 hg); have NB151_150 := bA (bG BK150 hg); replace BK148 := bA (bB BK148 hb); replace BK149 := bA (bB BK149 hb); replace BK150 := bA (bB BK150 hb); replace HB := bA (bS hb); clear hb hbox hg; have hz15 := NB151_148.out; have hz16 := NB148_151.out; have hz17 := NB151_149.out; have hz18 := NB149_151.out; have hz19 := NB151_150.out; have hz20 := NB150_151.out; obtain ⟨hz21, hz22, hz23, hz24⟩ := bc2 BK151; obtain ⟨hz25, hz26, hz7, hz8⟩ := bc2 BK148; obtain ⟨hz27, hz28, hz13, hz14⟩ := bc2 BK149; obtain ⟨hz29, hz30, hz31, hz32⟩ := bc2 BK150))
 ·refine bodyPost_ret (results_ct rfl _ _ gb150 85 #[.int .i64 0, .int .u64 0] (0, 0) _ rfl (by (with_reducible repeat (first | refine blk_drewN ?_ _ | refine blk_drew ?_ | refine blk_alloc ?_ _)); refine blk_put (cs := #[.int .i64 0, .int .u64 0]) ?_ 1 _ rfl; (with_reducible repeat (first | refine blk_drewN ?_ _ | refine blk_drew ?_ | refine blk_alloc ?_ _)); refine blk_put (cs := #[.int .i64 0, .int .u64 0]) ?_ 0 _ rfl; (repeat ((with_reducible repeat (first | refine blk_drewN ?_ _ | refine blk_drew ?_ | refine blk_alloc ?_ _)); refine blk_far ?_ NB150_151.out _)); (with_reducible repeat (first | refine blk_drewN ?_ _ | refine blk_drew ?_ | refine blk_alloc ?_ _)); exact BK150.out) Try.underlying85 rfl (by kernel_rfl)) rfl ?_
  exact bF
 refine bodyPost_ret (results_ct rfl _ _ gb150 85 #[.int .i64 (wrap64 (add64s (IntKind.u64.wrap (a0_0)) (IntKind.u64.wrap (a1_0)) (add64c a0_1 a1_1 0))), .int .u64 (add64s a0_1 a1_1 0)] (0, 0) _ rfl (by (with_reducible repeat (first | refine blk_drewN ?_ _ | refine blk_drew ?_ | refine blk_alloc ?_ _)); refine blk_put (cs := #[.int .i64 (wrap64 (add64s (IntKind.u64.wrap (a0_0)) (IntKind.u64.wrap (a1_0)) (add64c a0_1 a1_1 0))), .int .u64 0]) ?_ 1 _ rfl; (with_reducible repeat (first | refine blk_drewN ?_ _ | refine blk_drew ?_ | refine blk_alloc ?_ _)); refine blk_put (cs := #[.int .i64 0, .int .u64 0]) ?_ 0 _ rfl; (repeat ((with_reducible repeat (first | refine blk_drewN ?_ _ | refine blk_drew ?_ | refine blk_alloc ?_ _)); refine blk_far ?_ NB150_151.out _)); (with_reducible repeat (first | refine blk_drewN ?_ _ | refine blk_drew ?_ | refine blk_alloc ?_ _)); exact BK150.out) Try.underlying85 rfl (by kernel_rfl)) rfl ?_
 exact bF
/-! ### wide_Wide_Int: function 124 -/
def wide_Wide_Int.f (a0_0 : Int) (a0_1 : Int) : Option (Int × Bool) := (wide_Of.f (wrap64 (a0_1))).bind fun bt153 => (if (!(bt153.1 == a0_0) || (!(bt153.2 == a0_1))) = true then (some (0, false)) else (some (wrap64 (a0_1), true)))
set_option maxHeartbeats 8000000 in
set_option maxRecDepth 100000 in
theorem wide_Wide_Int.calls (a0_0 : Int) (a0_1 : Int) (r1 : Int) (r2 : Bool) (w : World) (h : wide_Wide_Int.f a0_0 a0_1 = some (r1, r2)) :
  Calls Try.prog 124 #[.agg #[.int .i64 a0_0, .int .u64 a0_1]] w fun e w' => e = .returned (.tuple #[.int .i64 r1, .bool r2]) ∧ Below w.heap.size w w' := by
 have hu85 := Try.underlying85
 have HB := bA (Below.refl w.heap.size w)
 have H : ((wide_Of.f (wrap64 (a0_1))).bind fun bt153 => (if (!(bt153.1 == a0_0) || (!(bt153.2 == a0_1))) = true then (some (0, false)) else (some (wrap64 (a0_1), true)))) = some (r1, r2) := h
 clear h
 replace H := Option.bind_eq_some_iff.mp H
 obtain ⟨⟨t153, t154⟩, A20, H⟩ := H
 replace H : (if (!(t153 == a0_0) || (!(t154 == a0_1))) = true then (some (0, false)) else (some (wrap64 (a0_1), true))) = some (r1, r2) := H
 have A2 := bA A20
 clear A20
 by_cases c3 : (!(t153 == a0_0) || (!(t154 == a0_1))) = true
 ·rw [if_pos c3] at H
  have c3b0 : (!(t153 == a0_0) || (!(t154 == a0_1))) = true := c3
  clear c3
  simp only [Option.some.injEq, Prod.mk.injEq] at H
  obtain ⟨rfl, rfl⟩ := H
  go_enter Try.func124, Try.ntmps124
  try go_wp2_with (first | ((with_reducible refine gate_dst (N := 1) rfl ?_); refine bE (N := 1) (cs := #[.int .i64 a0_0, .int .u64 a0_1]) (t := 85) ?_; intro gb152 hg w4 hbox hb; have BK152 := bA (hbox); have GW152 := bA (bZ hg); have GE152 := bA (bZ hg); replace HB := bA (bS hb); clear hb hbox hg; obtain ⟨hcz5_0, hcz5_1, hfz5_0, hfz5_1⟩ := bc2 BK152))
  replace BK152 := bA (blk_drew BK152.out)
  replace HB := bA (below_drew1 HB.out)
  refine start_ (n := 4) (S := fun w' => w'.cell? ⟨gb152, 0, none⟩ = some (.int .i64 a0_0) ∧ w'.cell? ⟨gb152, 1, none⟩ = some (.int .u64 a0_1)) (ds := []) #[false, false, false, false] (by kernel_rfl) rfl rfl ⟨bq BK152 0, bq BK152 1⟩ (fun hHeld => ?_)
  generalize w4.drew = w6 at BK152 HB hHeld ⊢
  refine pure_ (i := 0) (N := some 8) (v := ?_) (a' := ?_) #[true, false, false, false] rfl rfl (by kernel_rfl) (fun _ _ _ h => h) (Or.inl ⟨by rfl, ?_⟩) ?_ ?_
  rotate_left
  ·intro w'
   go_simp
   with_reducible rfl
  rotate_left
  ·simp only [Act.put, List.setIfInBounds_toArray, List.set_cons_zero, List.set_cons_succ, i64_w, i32_w]
   rfl
  refine take_ (i := 2) (N := some 10) (v := ?_) (a' := ?_) #[true, false, true, false] rfl rfl (by kernel_rfl) (fun _ _ _ h => h) (Or.inl ⟨by rfl, ?_⟩) hHeld ?_ ?_
  rotate_left
  ·rintro w' ⟨s0, s1⟩
   go_simp
   with_reducible rfl
  rotate_left
  ·simp only [Act.put, List.setIfInBounds_toArray, List.set_cons_zero, List.set_cons_succ, i64_w, i32_w]
   rfl
  refine one_ (i := 1) (N := some 9) #[true, true, true, false] rfl rfl (by kernel_rfl) (by decide) (fun K hK => ?_)
  refine goes_ Try.func121 (by kernel_rfl) rfl #[.int .i64 (wrap64 (a0_1))] (by rfl) rfl rfl (by (try simp only [List.map_toArray, List.map_cons, List.map_nil]); first | done | rfl | (simp only [List.length_drop, List.length_take]; rfl)) ?_
  with_reducible refine (wide_Of.calls (wrap64 (a0_1)) t153 t154 _ A2.out).mono ?_
  rintro e w7 ⟨rfl, hb⟩
  refine ⟨_, rfl, ?_⟩
  replace BK152 := bA (bB BK152 hb)
  replace HB := bA (bS hb)
  (try clear hb)
  refine hK.out _ _ ⟨bq BK152 0, bq BK152 1⟩ (fun hHeld => ?_)
  clear hK K
  refine bH ?_
  refine pure_ (i := 3) (N := some 11) (v := ?_) (a' := ?_) #[true, true, true, true] rfl rfl (by kernel_rfl) (fun _ _ _ h => h) (Or.inl ⟨by rfl, ?_⟩) ?_ ?_
  rotate_left
  ·intro w'
   go_simp
   with_reducible rfl
  rotate_left
  ·simp only [Act.put, List.setIfInBounds_toArray, List.set_cons_zero, List.set_cons_succ, i64_w, i32_w]
   rfl
  refine done_ (by kernel_rfl) ?_
  try go_wp2
  go_ret2
  exact bF
 rw [if_neg c3] at H
 have c3b0 : (!(t153 == a0_0) || (!(t154 == a0_1))) = false := by simpa using c3
 clear c3
 simp only [Option.some.injEq, Prod.mk.injEq] at H
 obtain ⟨rfl, rfl⟩ := H
 go_enter Try.func124, Try.ntmps124
 try go_wp2_with (first | ((with_reducible refine gate_dst (N := 1) rfl ?_); refine bE (N := 1) (cs := #[.int .i64 a0_0, .int .u64 a0_1]) (t := 85) ?_; intro gb152 hg w8 hbox hb; have BK152 := bA (hbox); have GW152 := bA (bZ hg); have GE152 := bA (bZ hg); replace HB := bA (bS hb); clear hb hbox hg; obtain ⟨hcz9_0, hcz9_1, hfz9_0, hfz9_1⟩ := bc2 BK152))
 replace BK152 := bA (blk_drew BK152.out)
 replace HB := bA (below_drew1 HB.out)
 refine start_ (n := 4) (S := fun w' => w'.cell? ⟨gb152, 0, none⟩ = some (.int .i64 a0_0) ∧ w'.cell? ⟨gb152, 1, none⟩ = some (.int .u64 a0_1)) (ds := []) #[false, false, false, false] (by kernel_rfl) rfl rfl ⟨bq BK152 0, bq BK152 1⟩ (fun hHeld => ?_)
 generalize w8.drew = w10 at BK152 HB hHeld ⊢
 refine pure_ (i := 0) (N := some 8) (v := ?_) (a' := ?_) #[true, false, false, false] rfl rfl (by kernel_rfl) (fun _ _ _ h => h) (Or.inl ⟨by rfl, ?_⟩) ?_ ?_
 rotate_left
 ·intro w'
  go_simp
  with_reducible rfl
 rotate_left
 ·simp only [Act.put, List.setIfInBounds_toArray, List.set_cons_zero, List.set_cons_succ, i64_w, i32_w]
  rfl
 refine take_ (i := 2) (N := some 10) (v := ?_) (a' := ?_) #[true, false, true, false] rfl rfl (by kernel_rfl) (fun _ _ _ h => h) (Or.inl ⟨by rfl, ?_⟩) hHeld ?_ ?_
 rotate_left
 ·rintro w' ⟨s0, s1⟩
  go_simp
  with_reducible rfl
 rotate_left
 ·simp only [Act.put, List.setIfInBounds_toArray, List.set_cons_zero, List.set_cons_succ, i64_w, i32_w]
  rfl
 refine one_ (i := 1) (N := some 9) #[true, true, true, false] rfl rfl (by kernel_rfl) (by decide) (fun K hK => ?_)
 refine goes_ Try.func121 (by kernel_rfl) rfl #[.int .i64 (wrap64 (a0_1))] (by rfl) rfl rfl (by (try simp only [List.map_toArray, List.map_cons, List.map_nil]); first | done | rfl | (simp only [List.length_drop, List.length_take]; rfl)) ?_
 with_reducible refine (wide_Of.calls (wrap64 (a0_1)) t153 t154 _ A2.out).mono ?_
 rintro e w11 ⟨rfl, hb⟩
 refine ⟨_, rfl, ?_⟩
 replace BK152 := bA (bB BK152 hb)
 replace HB := bA (bS hb)
 (try clear hb)
 refine hK.out _ _ ⟨bq BK152 0, bq BK152 1⟩ (fun hHeld => ?_)
 clear hK K
 refine bH ?_
 refine pure_ (i := 3) (N := some 11) (v := ?_) (a' := ?_) #[true, true, true, true] rfl rfl (by kernel_rfl) (fun _ _ _ h => h) (Or.inl ⟨by rfl, ?_⟩) ?_ ?_
 rotate_left
 ·intro w'
  go_simp
  with_reducible rfl
 rotate_left
 ·simp only [Act.put, List.setIfInBounds_toArray, List.set_cons_zero, List.set_cons_succ, i64_w, i32_w]
  rfl
 refine done_ (by kernel_rfl) ?_
 try go_wp2
 go_ret2
 exact bF
/-! ### fix_told: function 120 -/
def fix_told.f (a0_0 : Int) (a0_1 : Int) (a1 : Bool) : Option (Int × Bool) := if a1 = true then ((wide_Wide_Int.f a0_0 a0_1).bind fun bt156 => (some (bt156.1, bt156.2))) else (some (0, false))
set_option maxHeartbeats 8000000 in
set_option maxRecDepth 100000 in
theorem fix_told.calls (a0_0 : Int) (a0_1 : Int) (a1 : Bool) (r1 : Int) (r2 : Bool) (w : World) (h : fix_told.f a0_0 a0_1 a1 = some (r1, r2)) :
  Calls Try.prog 120 #[.agg #[.int .i64 a0_0, .int .u64 a0_1], .bool a1] w fun e w' => e = .returned (.tuple #[.int .i64 r1, .bool r2]) ∧ Below w.heap.size w w' := by
 have hu85 := Try.underlying85
 have HB := bA (Below.refl w.heap.size w)
 have H : (if a1 = true then ((wide_Wide_Int.f a0_0 a0_1).bind fun bt156 => (some (bt156.1, bt156.2))) else (some (0, false))) = some (r1, r2) := h
 clear h
 by_cases c3 : a1 = true
 subst c3
 rw [if_pos rfl] at H
 replace H := Option.bind_eq_some_iff.mp H
 obtain ⟨⟨t156, t157⟩, A40, H⟩ := H
 replace H : (some (t156, t157)) = some (r1, r2) := H
 have A4 := bA A40
 clear A40
 simp only [Option.some.injEq, Prod.mk.injEq] at H
 obtain ⟨rfl, rfl⟩ := H
 rotate_left
 replace c3 := Bool.eq_false_iff.mpr c3
 subst c3
 rw [if_neg bn] at H
 simp only [Option.some.injEq, Prod.mk.injEq] at H
 obtain ⟨rfl, rfl⟩ := H
 rotate_left
 all_goals go_enter Try.func120, Try.ntmps120
 all_goals go_wp2_with (first | ((with_reducible refine gate_dst (N := 2) rfl ?_); refine bE (N := 2) (cs := #[.int .i64 a0_0, .int .u64 a0_1]) (t := 85) ?_; intro gb155 hg wz0 hbox hb; have BK155 := bA (hbox); have GW155 := bA (bZ hg); have GE155 := bA (bZ hg); replace HB := bA (bS hb); clear hb hbox hg; obtain ⟨hz1, hz2, hz3, hz4⟩ := bc2 BK155) | ((first | ((with_reducible refine gate_callee (f := 124) rfl ?_); refine bC (some 9) Try.func124 #[.agg #[.int .i64 a0_0, .int .u64 a0_1]] ?_) | go_at_call 124); (with_reducible refine (wide_Wide_Int.calls a0_0 a0_1 t156 t157 _ A4.out).mono ?_); rintro e wz1 ⟨rfl, hb⟩; (first | refine ⟨_, rfl, ?_⟩ | skip); replace BK155 := bA (bB BK155 hb); replace HB := bA (bS hb); (try clear hb)))
 all_goals (go_ret2; exact bF)
/-! ### fix_Add: function 114 -/
def fix_Add.f (a0 : Int) (a1 : Int) : Option (Int × Bool) := (wide_Of.f a0).bind fun bt158 => ((wide_Of.f a1).bind fun bt160 => ((wide_Wide_Add.f bt158.1 bt158.2 bt160.1 bt160.2).bind fun bt162 => ((fix_told.f bt162.1 bt162.2.1 bt162.2.2).bind fun bt165 => (some (bt165.1, bt165.2)))))
set_option maxHeartbeats 8000000 in
set_option maxRecDepth 100000 in
theorem fix_Add.calls (a0 : Int) (a1 : Int) (r1 : Int) (r2 : Bool) (w : World) (h : fix_Add.f a0 a1 = some (r1, r2)) :
  Calls Try.prog 114 #[.int .i64 a0, .int .i64 a1] w fun e w' => e = .returned (.tuple #[.int .i64 r1, .bool r2]) ∧ Below w.heap.size w w' := by
 have HB := bA (Below.refl w.heap.size w)
 have H : ((wide_Of.f a0).bind fun bt158 => ((wide_Of.f a1).bind fun bt160 => ((wide_Wide_Add.f bt158.1 bt158.2 bt160.1 bt160.2).bind fun bt162 => ((fix_told.f bt162.1 bt162.2.1 bt162.2.2).bind fun bt165 => (some (bt165.1, bt165.2)))))) = some (r1, r2) := h
 clear h
 replace H := Option.bind_eq_some_iff.mp H
 obtain ⟨⟨t158, t159⟩, A30, H⟩ := H
 replace H : ((wide_Of.f a1).bind fun bt160 => ((wide_Wide_Add.f t158 t159 bt160.1 bt160.2).bind fun bt162 => ((fix_told.f bt162.1 bt162.2.1 bt162.2.2).bind fun bt165 => (some (bt165.1, bt165.2))))) = some (r1, r2) := H
 have A3 := bA A30
 clear A30
 replace H := Option.bind_eq_some_iff.mp H
 obtain ⟨⟨t160, t161⟩, A40, H⟩ := H
 replace H : ((wide_Wide_Add.f t158 t159 t160 t161).bind fun bt162 => ((fix_told.f bt162.1 bt162.2.1 bt162.2.2).bind fun bt165 => (some (bt165.1, bt165.2)))) = some (r1, r2) := H
 have A4 := bA A40
 clear A40
 replace H := Option.bind_eq_some_iff.mp H
 obtain ⟨⟨t162, t163, t164⟩, A50, H⟩ := H
 replace H : ((fix_told.f t162 t163 t164).bind fun bt165 => (some (bt165.1, bt165.2))) = some (r1, r2) := H
 have A5 := bA A50
 clear A50
 replace H := Option.bind_eq_some_iff.mp H
 obtain ⟨⟨t165, t166⟩, A60, H⟩ := H
 replace H : (some (t165, t166)) = some (r1, r2) := H
 have A6 := bA A60
 clear A60
 simp only [Option.some.injEq, Prod.mk.injEq] at H
 obtain ⟨rfl, rfl⟩ := H
 go_enter Try.func114, Try.ntmps114
 go_wp2_with (first | ((first | ((with_reducible refine gate_callee (f := 121) rfl ?_); refine bC (some 7) Try.func121 #[.int .i64 a0] ?_) | go_at_call 121); (with_reducible refine (wide_Of.calls a0 t158 t159 _ A3.out).mono ?_); rintro e w7 ⟨rfl, hb⟩; (first | refine ⟨_, rfl, ?_⟩ | skip); replace HB := bA (bS hb); (try clear hb)) | ((first | ((with_reducible refine gate_callee (f := 121) rfl ?_); refine bC (some 9) Try.func121 #[.int .i64 a1] ?_) | go_at_call 121); (with_reducible refine (wide_Of.calls a1 t160 t161 _ A4.out).mono ?_); rintro e w8 ⟨rfl, hb⟩; (first | refine ⟨_, rfl, ?_⟩ | skip); replace HB := bA (bS hb); (try clear hb)) | ((first | ((with_reducible refine gate_callee (f := 76) rfl ?_); refine bC (some 10) Try.func76 #[.agg #[.int .i64 t158, .int .u64 t159], .agg #[.int .i64 t160, .int .u64 t161]] ?_) | go_at_call 76); (with_reducible refine (wide_Wide_Add.calls t158 t159 t160 t161 t162 t163 t164 _ A5.out).mono ?_); rintro e w9 ⟨rfl, hb⟩; (first | refine ⟨_, rfl, ?_⟩ | skip); replace HB := bA (bS hb); (try clear hb)) | ((first | ((with_reducible refine gate_callee (f := 120) rfl ?_); refine bC (some 13) Try.func120 #[.agg #[.int .i64 t162, .int .u64 t163], .bool t164] ?_) | go_at_call 120); (with_reducible refine (fix_told.calls t162 t163 t164 t165 t166 _ A6.out).mono ?_); rintro e w10 ⟨rfl, hb⟩; (first | refine ⟨_, rfl, ?_⟩ | skip); replace HB := bA (bS hb); (try clear hb)))
 go_ret2
 exact bF
/-! ### point_Move: function 101 -/
def point_Move.f (k : Nat) (a0_0 : Int) (a0_1 : Int) (a1 : Int) (a2 : Int) : Option (Int × Int × Bool) := (fix_Add.f a0_0 a1).bind fun bt169 => ((fix_Add.f a0_1 a2).bind fun bt171 => (if bt169.2 = true then (if bt171.2 = true then ((point_right.f k (([(⟨a0_0, a0_1⟩ : S41), (⟨bt169.1, bt171.1⟩ : S41)] : List (S41)))).bind fun t177 => (if t177 = true then (some (bt169.1, bt171.1, true)) else (some (0, 0, false)))) else (some (0, 0, false))) else (some (0, 0, false))))
theorem point_Move.mono : ∀ a0 a1 a2 a3 k, LeO (point_Move.f k a0 a1 a2 a3) (point_Move.f (k + 1) a0 a1 a2 a3) := by
 intro a0 a1 a2 a3 k
 unfold point_Move.f
 repeat' first
   | (with_reducible exact point_right.mono _ _)
   | (with_reducible exact LeO.refl _)
   | (with_reducible exact LeO.none _)
   | (with_reducible refine LeO.ite ?_ ?_)
   | (with_reducible refine LeO.bind ?_ (fun _ => ?_))
   | exact point_right.mono _ _
   | exact LeO.none _
   | refine LeO.ite ?_ ?_
   | refine LeO.bind ?_ (fun _ => ?_)
set_option maxHeartbeats 8000000 in
set_option maxRecDepth 100000 in
theorem point_Move.calls (k : Nat) (a0_0 : Int) (a0_1 : Int) (a1 : Int) (a2 : Int) (r1 : Int) (r2 : Int) (r3 : Bool) (w : World) (h : point_Move.f k a0_0 a0_1 a1 a2 = some (r1, r2, r3)) :
  Calls Try.prog 101 #[.agg #[.int .i64 a0_0, .int .i64 a0_1], .int .i64 a1, .int .i64 a2] w fun e w' => e = .returned (.tuple #[.agg #[.int .i64 r1, .int .i64 r2], .bool r3]) ∧ Below w.heap.size w w' := by
 have hu41 := Try.underlying41
 have HB := bA (Below.refl w.heap.size w)
 have H : ((fix_Add.f a0_0 a1).bind fun bt169 => ((fix_Add.f a0_1 a2).bind fun bt171 => (if bt169.2 = true then (if bt171.2 = true then ((point_right.f k (([(⟨a0_0, a0_1⟩ : S41), (⟨bt169.1, bt171.1⟩ : S41)] : List (S41)))).bind fun t177 => (if t177 = true then (some (bt169.1, bt171.1, true)) else (some (0, 0, false)))) else (some (0, 0, false))) else (some (0, 0, false))))) = some (r1, r2, r3) := h
 clear h
 replace H := Option.bind_eq_some_iff.mp H
 obtain ⟨⟨t169, t170⟩, A40, H⟩ := H
 replace H : ((fix_Add.f a0_1 a2).bind fun bt171 => (if t170 = true then (if bt171.2 = true then ((point_right.f k (([(⟨a0_0, a0_1⟩ : S41), (⟨t169, bt171.1⟩ : S41)] : List (S41)))).bind fun t177 => (if t177 = true then (some (t169, bt171.1, true)) else (some (0, 0, false)))) else (some (0, 0, false))) else (some (0, 0, false)))) = some (r1, r2, r3) := H
 have A4 := bA A40
 clear A40
 replace H := Option.bind_eq_some_iff.mp H
 obtain ⟨⟨t171, t172⟩, A50, H⟩ := H
 replace H : (if t170 = true then (if t172 = true then ((point_right.f k (([(⟨a0_0, a0_1⟩ : S41), (⟨t169, t171⟩ : S41)] : List (S41)))).bind fun t177 => (if t177 = true then (some (t169, t171, true)) else (some (0, 0, false)))) else (some (0, 0, false))) else (some (0, 0, false))) = some (r1, r2, r3) := H
 have A5 := bA A50
 clear A50
 by_cases c6 : t170 = true
 subst c6
 rw [if_pos rfl] at H
 by_cases c7 : t172 = true
 subst c7
 rw [if_pos rfl] at H
 obtain ⟨y174, hy174⟩ : ∃ y_ : List (S41), y_ = (([(⟨a0_0, a0_1⟩ : S41), (⟨t169, t171⟩ : S41)] : List (S41))) := ⟨_, rfl⟩
 replace H : ((point_right.f k y174).bind fun t177 => (if t177 = true then (some (t169, t171, true)) else (some (0, 0, false)))) = some (r1, r2, r3) := by first | (rw [hy174]; with_reducible exact H) | (have H2_ := (Option.bind_some _ _).symm.trans H; rw [hy174]; with_reducible exact H2_) | (have H2_ := (Option.bind_some _ _).symm.trans H; with_reducible exact H2_) | with_reducible exact H | (rw [hy174]; exact H) | exact H
 have Ny174 := bA hy174
 clear hy174
 replace H := Option.bind_eq_some_iff.mp H
 obtain ⟨t177, A80, H⟩ := H
 have A8 := bA A80
 clear A80
 by_cases c9 : t177 = true
 subst c9
 rw [if_pos rfl] at H
 simp only [Option.some.injEq, Prod.mk.injEq] at H
 obtain ⟨rfl, rfl, rfl⟩ := H
 rotate_left
 replace c9 := Bool.eq_false_iff.mpr c9
 subst c9
 rw [if_neg bn] at H
 simp only [Option.some.injEq, Prod.mk.injEq] at H
 obtain ⟨rfl, rfl, rfl⟩ := H
 rotate_left
 replace c7 := Bool.eq_false_iff.mpr c7
 subst c7
 rw [if_neg bn] at H
 simp only [Option.some.injEq, Prod.mk.injEq] at H
 obtain ⟨rfl, rfl, rfl⟩ := H
 rotate_left
 replace c6 := Bool.eq_false_iff.mpr c6
 subst c6
 rw [if_neg bn] at H
 simp only [Option.some.injEq, Prod.mk.injEq] at H
 obtain ⟨rfl, rfl, rfl⟩ := H
 rotate_left
 all_goals go_enter Try.func101, Try.ntmps101
 all_goals go_wp2_with (first | ((with_reducible refine gate_dst (N := 3) rfl ?_); (try (refine gate_guard (by rfl) ?_; dsimp only)); refine bE (N := 3) (cs := #[.int .i64 a0_0, .int .i64 a0_1]) (t := 41) ?_; intro gb167 hg wz0 hbox hb; have BK167 := bA (hbox); have GW167 := bA (bZ hg); have GE167 := bA (bZ hg); replace HB := bA (bS hb); clear hb hbox hg) | ((with_reducible refine gate_dst (N := 6) rfl ?_); (try (refine gate_guard (by rfl) ?_; dsimp only)); refine bE (N := 6) (cs := #[.int .i64 0, .int .i64 0]) (t := 41) ?_; intro gb168 hg wz1 hbox hb; have BK168 := bA (hbox); have GW168 := bA (bZ hg); have GE168 := bA (bZ hg); have NB167_168 := bA (bL BK167 hg); have NB168_167 := bA (bG BK167 hg); replace BK167 := bA (bB BK167 hb); replace HB := bA (bS hb); clear hb hbox hg; have hz1 := NB167_168.out; have hz2 := NB168_167.out; obtain ⟨hz3, hz4, hz5, hz6⟩ := bc2 BK167) | ((first | ((with_reducible refine gate_callee (f := 114) rfl ?_); refine bC (some 17) Try.func114 #[.int .i64 a0_0, .int .i64 a1] ?_) | go_at_call 114); (with_reducible refine (fix_Add.calls a0_0 a1 t169 true _ A4.out).mono ?_); rintro e wz2 ⟨rfl, hb⟩; (first | refine ⟨_, rfl, ?_⟩ | skip); replace BK167 := bA (bB BK167 hb); replace BK168 := bA (bB BK168 hb); replace HB := bA (bS hb); (try clear hb); obtain ⟨hz7, hz8, hz5, hz6⟩ := bc2 BK167) | ((first | ((with_reducible refine gate_callee (f := 114) rfl ?_); refine bC (some 24) Try.func114 #[.int .i64 a0_1, .int .i64 a2] ?_) | go_at_call 114); (with_reducible refine (fix_Add.calls a0_1 a2 t171 true _ A5.out).mono ?_); rintro e wz3 ⟨rfl, hb⟩; (first | refine ⟨_, rfl, ?_⟩ | skip); replace BK167 := bA (bB BK167 hb); replace BK168 := bA (bB BK168 hb); replace HB := bA (bS hb); (try clear hb)) | ((with_reducible refine gate_dst (N := 12) rfl ?_); (try (refine gate_guard (by rfl) ?_; dsimp only)); refine bE (N := 12) (cs := #[.int .i64 0, .int .i64 0]) (t := 41) ?_; intro gb173 hg wz4 hbox hb; have BK173 := bA (hbox); have GW173 := bA (bZ hg); have GE173 := bA (bZ hg); have NB167_173 := bA (bL BK167 hg); have NB173_167 := bA (bG BK167 hg); have NB168_173 := bA (bL BK168 hg); have NB173_168 := bA (bG BK168 hg); replace BK167 := bA (bB BK167 hb); replace BK168 := bA (bB BK168 hb); replace HB := bA (bS hb); clear hb hbox hg; have hz9 := NB173_167.out; have hz10 := NB167_173.out; have hz11 := NB173_168.out; have hz12 := NB168_173.out; obtain ⟨hz13, hz14, hz15, hz16⟩ := bc2 BK173; obtain ⟨hz17, hz18, hz5, hz6⟩ := bc2 BK167; obtain ⟨hz19, hz20, hz21, hz22⟩ := bc2 BK168) | ((with_reducible refine gate_dst (N := 39) rfl ?_); (try (refine gate_guard (by rfl) ?_; dsimp only)); refine Kd.R_lit k41 _ 41 ?hg (N := 39) ?hd (xs := ([(⟨a0_0, a0_1⟩ : S41), (⟨t169, t171⟩ : S41)] : List (S41))) (inner := [.int .i64 a0_0, .int .i64 a0_1, .int .i64 t169, .int .i64 t171]) (ok := fun _ => True) (okp := fun _ => True) ?hr ?hp (fun _ hk => hk) trivial (Below.refl _ _) (Nat.le_refl _) (by simp) ?_; (case hd => rfl); (case hg => rfl); (case hr => first | (go_simp; done) | (go_simp; rfl)); (case hp => exact (Reps.c2 (show Kd.M k41 _ _ _ (⟨a0_0, a0_1⟩ : S41) [.int .i64 a0_0, .int .i64 a0_1] from (k41_mkM _ _ _ (⟨a0_0, a0_1⟩ : S41) )) (Reps.c2 (show Kd.M k41 _ _ _ (⟨t169, t171⟩ : S41) [.int .i64 t169, .int .i64 t171] from (k41_mkM _ _ _ (⟨t169, t171⟩ : S41) )) (Reps.none _ _)))); intro v175 wz5 ho23 hb hg_ hnew_; clear hg_ hnew_; (first | rw [← Ny174.out] at ho23 | (simp only [Int.reduceToNat] at ho23; rw [← Ny174.out] at ho23)); have HO176 := bA (Kd.R_lower (Kd.R_newB (Kd.R_newB (Kd.R_newB ho23 (g := gb167) (o := .cells #[.int .i64 a0_0, .int .i64 a0_1] 41 (0, 0)) (by (repeat ((with_reducible repeat (first | refine blk_drewN ?_ _ | refine blk_drew ?_ | refine blk_alloc ?_ _)); refine blk_far ?_ NB167_173.out _)); (with_reducible repeat (first | refine blk_drewN ?_ _ | refine blk_drew ?_ | refine blk_alloc ?_ _)); exact BK167.out)) (g := gb168) (o := .cells #[.int .i64 0, .int .i64 0] 41 (0, 0)) (by (repeat ((with_reducible repeat (first | refine blk_drewN ?_ _ | refine blk_drew ?_ | refine blk_alloc ?_ _)); refine blk_far ?_ NB168_173.out _)); (with_reducible repeat (first | refine blk_drewN ?_ _ | refine blk_drew ?_ | refine blk_alloc ?_ _)); exact BK168.out)) (g := gb173) (o := .cells #[.int .i64 t169, .int .i64 t171] 41 (0, 0)) (by (with_reducible repeat (first | refine blk_drewN ?_ _ | refine blk_drew ?_ | refine blk_alloc ?_ _)); refine blk_put (cs := #[.int .i64 t169, .int .i64 0]) ?_ 1 _ rfl; (with_reducible repeat (first | refine blk_drewN ?_ _ | refine blk_drew ?_ | refine blk_alloc ?_ _)); refine blk_put (cs := #[.int .i64 0, .int .i64 0]) ?_ 0 _ rfl; (with_reducible repeat (first | refine blk_drewN ?_ _ | refine blk_drew ?_ | refine blk_alloc ?_ _)); exact BK173.out)) bY); replace BK167 := bA (blk_below (g := gb167) (o := .cells #[.int .i64 a0_0, .int .i64 a0_1] 41 (0, 0)) (by (repeat ((with_reducible repeat (first | refine blk_drewN ?_ _ | refine blk_drew ?_ | refine blk_alloc ?_ _)); refine blk_far ?_ NB167_173.out _)); (with_reducible repeat (first | refine blk_drewN ?_ _ | refine blk_drew ?_ | refine blk_alloc ?_ _)); exact BK167.out) hb); replace BK168 := bA (blk_below (g := gb168) (o := .cells #[.int .i64 0, .int .i64 0] 41 (0, 0)) (by (repeat ((with_reducible repeat (first | refine blk_drewN ?_ _ | refine blk_drew ?_ | refine blk_alloc ?_ _)); refine blk_far ?_ NB168_173.out _)); (with_reducible repeat (first | refine blk_drewN ?_ _ | refine blk_drew ?_ | refine blk_alloc ?_ _)); exact BK168.out) hb); replace BK173 := bA (blk_below (g := gb173) (o := .cells #[.int .i64 t169, .int .i64 t171] 41 (0, 0)) (by (with_reducible repeat (first | refine blk_drewN ?_ _ | refine blk_drew ?_ | refine blk_alloc ?_ _)); refine blk_put (cs := #[.int .i64 t169, .int .i64 0]) ?_ 1 _ rfl; (with_reducible repeat (first | refine blk_drewN ?_ _ | refine blk_drew ?_ | refine blk_alloc ?_ _)); refine blk_put (cs := #[.int .i64 0, .int .i64 0]) ?_ 0 _ rfl; (with_reducible repeat (first | refine blk_drewN ?_ _ | refine blk_drew ?_ | refine blk_alloc ?_ _)); exact BK173.out) hb); replace HB := bA (bS hb); clear hb ho23; obtain ⟨Aoz6, coz7, eoz8⟩ := Kd.R_slice HO176.out; subst eoz8) | (go_at_call 85; (with_reducible refine (point_right.calls k _ _ y174 true _ ?side1 ?side2 A8.out).mono ?_); (case side1 => repeat (first | exact (Kd.R_reads' HO176.out).2.2 | (with_reducible refine Kd.C_alloc ?_ _) | (with_reducible refine Kd.C_drewN ?_ _) | (with_reducible refine Kd.C_drew ?_))); (case side2 => exact (Kd.R_reads' HO176.out).2.1); rintro e wz9 ⟨rfl, hb⟩; replace HO176 := bA (Kd.R_below (bRr HO176) hb); replace BK167 := bA (bB BK167 hb); replace BK168 := bA (bB BK168 hb); replace BK173 := bA (bB BK173 hb); replace HB := bA (bS hb); (try clear hb); obtain ⟨hz23, hz24, hz15, hz16⟩ := bc2 BK173; obtain ⟨hz25, hz26, hz21, hz22⟩ := bc2 BK168) | ((with_reducible refine gate_dst (N := 39) rfl ?_); (try (refine gate_guard (by rfl) ?_; dsimp only)); refine Kd.R_lit k41 _ 41 ?hg (N := 39) ?hd (xs := ([(⟨a0_0, a0_1⟩ : S41), (⟨t169, t171⟩ : S41)] : List (S41))) (inner := [.int .i64 a0_0, .int .i64 a0_1, .int .i64 t169, .int .i64 t171]) (ok := fun _ => True) (okp := fun _ => True) ?hr ?hp (fun _ hk => hk) trivial (Below.refl _ _) (Nat.le_refl _) (by simp) ?_; (case hd => rfl); (case hg => rfl); (case hr => first | (go_simp; done) | (go_simp; rfl)); (case hp => exact (Reps.c2 (show Kd.M k41 _ _ _ (⟨a0_0, a0_1⟩ : S41) [.int .i64 a0_0, .int .i64 a0_1] from (k41_mkM _ _ _ (⟨a0_0, a0_1⟩ : S41) )) (Reps.c2 (show Kd.M k41 _ _ _ (⟨t169, t171⟩ : S41) [.int .i64 t169, .int .i64 t171] from (k41_mkM _ _ _ (⟨t169, t171⟩ : S41) )) (Reps.none _ _)))); intro v175 wz5 ho41 hb hg_ hnew_; clear hg_ hnew_; (first | rw [← Ny174.out] at ho41 | (simp only [Int.reduceToNat] at ho41; rw [← Ny174.out] at ho41)); have HO176 := bA (Kd.R_lower (Kd.R_newB (Kd.R_newB (Kd.R_newB ho41 (g := gb167) (o := .cells #[.int .i64 a0_0, .int .i64 a0_1] 41 (0, 0)) (by (repeat ((with_reducible repeat (first | refine blk_drewN ?_ _ | refine blk_drew ?_ | refine blk_alloc ?_ _)); refine blk_far ?_ NB167_173.out _)); (with_reducible repeat (first | refine blk_drewN ?_ _ | refine blk_drew ?_ | refine blk_alloc ?_ _)); exact BK167.out)) (g := gb168) (o := .cells #[.int .i64 0, .int .i64 0] 41 (0, 0)) (by (repeat ((with_reducible repeat (first | refine blk_drewN ?_ _ | refine blk_drew ?_ | refine blk_alloc ?_ _)); refine blk_far ?_ NB168_173.out _)); (with_reducible repeat (first | refine blk_drewN ?_ _ | refine blk_drew ?_ | refine blk_alloc ?_ _)); exact BK168.out)) (g := gb173) (o := .cells #[.int .i64 t169, .int .i64 t171] 41 (0, 0)) (by (with_reducible repeat (first | refine blk_drewN ?_ _ | refine blk_drew ?_ | refine blk_alloc ?_ _)); refine blk_put (cs := #[.int .i64 t169, .int .i64 0]) ?_ 1 _ rfl; (with_reducible repeat (first | refine blk_drewN ?_ _ | refine blk_drew ?_ | refine blk_alloc ?_ _)); refine blk_put (cs := #[.int .i64 0, .int .i64 0]) ?_ 0 _ rfl; (with_reducible repeat (first | refine blk_drewN ?_ _ | refine blk_drew ?_ | refine blk_alloc ?_ _)); exact BK173.out)) bY); replace BK167 := bA (blk_below (g := gb167) (o := .cells #[.int .i64 a0_0, .int .i64 a0_1] 41 (0, 0)) (by (repeat ((with_reducible repeat (first | refine blk_drewN ?_ _ | refine blk_drew ?_ | refine blk_alloc ?_ _)); refine blk_far ?_ NB167_173.out _)); (with_reducible repeat (first | refine blk_drewN ?_ _ | refine blk_drew ?_ | refine blk_alloc ?_ _)); exact BK167.out) hb); replace BK168 := bA (blk_below (g := gb168) (o := .cells #[.int .i64 0, .int .i64 0] 41 (0, 0)) (by (repeat ((with_reducible repeat (first | refine blk_drewN ?_ _ | refine blk_drew ?_ | refine blk_alloc ?_ _)); refine blk_far ?_ NB168_173.out _)); (with_reducible repeat (first | refine blk_drewN ?_ _ | refine blk_drew ?_ | refine blk_alloc ?_ _)); exact BK168.out) hb); replace BK173 := bA (blk_below (g := gb173) (o := .cells #[.int .i64 t169, .int .i64 t171] 41 (0, 0)) (by (with_reducible repeat (first | refine blk_drewN ?_ _ | refine blk_drew ?_ | refine blk_alloc ?_ _)); refine blk_put (cs := #[.int .i64 t169, .int .i64 0]) ?_ 1 _ rfl; (with_reducible repeat (first | refine blk_drewN ?_ _ | refine blk_drew ?_ | refine blk_alloc ?_ _)); refine blk_put (cs := #[.int .i64 0, .int .i64 0]) ?_ 0 _ rfl; (with_reducible repeat (first | refine blk_drewN ?_ _ | refine blk_drew ?_ | refine blk_alloc ?_ _)); exact BK173.out) hb); replace HB := bA (bS hb); clear hb ho41; obtain ⟨Aoz6, coz7, eoz8⟩ := Kd.R_slice HO176.out; subst eoz8) | (go_at_call 85; (with_reducible refine (point_right.calls k _ _ y174 false _ ?side1 ?side2 A8.out).mono ?_); (case side1 => repeat (first | exact (Kd.R_reads' HO176.out).2.2 | (with_reducible refine Kd.C_alloc ?_ _) | (with_reducible refine Kd.C_drewN ?_ _) | (with_reducible refine Kd.C_drew ?_))); (case side2 => exact (Kd.R_reads' HO176.out).2.1); rintro e wz9 ⟨rfl, hb⟩; replace HO176 := bA (Kd.R_below (bRr HO176) hb); replace BK167 := bA (bB BK167 hb); replace BK168 := bA (bB BK168 hb); replace BK173 := bA (bB BK173 hb); replace HB := bA (bS hb); (try clear hb); obtain ⟨hz25, hz26, hz21, hz22⟩ := bc2 BK168) | ((first | ((with_reducible refine gate_callee (f := 114) rfl ?_); refine bC (some 24) Try.func114 #[.int .i64 a0_1, .int .i64 a2] ?_) | go_at_call 114); (with_reducible refine (fix_Add.calls a0_1 a2 t171 false _ A5.out).mono ?_); rintro e wz3 ⟨rfl, hb⟩; (first | refine ⟨_, rfl, ?_⟩ | skip); replace BK167 := bA (bB BK167 hb); replace BK168 := bA (bB BK168 hb); replace HB := bA (bS hb); (try clear hb)) | ((first | ((with_reducible refine gate_callee (f := 114) rfl ?_); refine bC (some 17) Try.func114 #[.int .i64 a0_0, .int .i64 a1] ?_) | go_at_call 114); (with_reducible refine (fix_Add.calls a0_0 a1 t169 false _ A4.out).mono ?_); rintro e wz2 ⟨rfl, hb⟩; (first | refine ⟨_, rfl, ?_⟩ | skip); replace BK167 := bA (bB BK167 hb); replace BK168 := bA (bB BK168 hb); replace HB := bA (bS hb); (try clear hb); obtain ⟨hz7, hz8, hz5, hz6⟩ := bc2 BK167) | ((first | ((with_reducible refine gate_callee (f := 114) rfl ?_); refine bC (some 24) Try.func114 #[.int .i64 a0_1, .int .i64 a2] ?_) | go_at_call 114); (with_reducible refine (fix_Add.calls a0_1 a2 t171 t172 _ A5.out).mono ?_); rintro e wz3 ⟨rfl, hb⟩; (first | refine ⟨_, rfl, ?_⟩ | skip); replace BK167 := bA (bB BK167 hb); replace BK168 := bA (bB BK168 hb); replace HB := bA (bS hb); (try clear hb)))
 ·refine bodyPost_ret (results_ct rfl _ _ gb168 41 #[.int .i64 t169, .int .i64 t171] (0, 0) _ rfl (by (with_reducible repeat (first | refine blk_drewN ?_ _ | refine blk_drew ?_ | refine blk_alloc ?_ _)); refine blk_put (cs := #[.int .i64 t169, .int .i64 0]) ?_ 1 _ rfl; (with_reducible repeat (first | refine blk_drewN ?_ _ | refine blk_drew ?_ | refine blk_alloc ?_ _)); refine blk_put (cs := #[.int .i64 0, .int .i64 0]) ?_ 0 _ rfl; (with_reducible repeat (first | refine blk_drewN ?_ _ | refine blk_drew ?_ | refine blk_alloc ?_ _)); exact BK168.out) Try.underlying41 rfl (by kernel_rfl)) rfl ?_
  exact bF
 ·refine bodyPost_ret (results_ct rfl _ _ gb168 41 #[.int .i64 0, .int .i64 0] (0, 0) _ rfl (by (with_reducible repeat (first | refine blk_drewN ?_ _ | refine blk_drew ?_ | refine blk_alloc ?_ _)); refine blk_put (cs := #[.int .i64 0, .int .i64 0]) ?_ 1 _ rfl; (with_reducible repeat (first | refine blk_drewN ?_ _ | refine blk_drew ?_ | refine blk_alloc ?_ _)); refine blk_put (cs := #[.int .i64 0, .int .i64 0]) ?_ 0 _ rfl; (with_reducible repeat (first | refine blk_drewN ?_ _ | refine blk_drew ?_ | refine blk_alloc ?_ _)); exact BK168.out) Try.underlying41 rfl (by kernel_rfl)) rfl ?_
  exact bF
 ·refine bodyPost_ret (results_ct rfl _ _ gb168 41 #[.int .i64 0, .int .i64 0] (0, 0) _ rfl (by (with_reducible repeat (first | refine blk_drewN ?_ _ | refine blk_drew ?_ | refine blk_alloc ?_ _)); refine blk_put (cs := #[.int .i64 0, .int .i64 0]) ?_ 1 _ rfl; (with_reducible repeat (first | refine blk_drewN ?_ _ | refine blk_drew ?_ | refine blk_alloc ?_ _)); refine blk_put (cs := #[.int .i64 0, .int .i64 0]) ?_ 0 _ rfl; (repeat ((with_reducible repeat (first | refine blk_drewN ?_ _ | refine blk_drew ?_ | refine blk_alloc ?_ _)); refine blk_far ?_ NB168_173.out _)); (with_reducible repeat (first | refine blk_drewN ?_ _ | refine blk_drew ?_ | refine blk_alloc ?_ _)); exact BK168.out) Try.underlying41 rfl (by kernel_rfl)) rfl ?_
  exact bF
 refine bodyPost_ret (results_ct rfl _ _ gb168 41 #[.int .i64 0, .int .i64 0] (0, 0) _ rfl (by (with_reducible repeat (first | refine blk_drewN ?_ _ | refine blk_drew ?_ | refine blk_alloc ?_ _)); refine blk_put (cs := #[.int .i64 0, .int .i64 0]) ?_ 1 _ rfl; (with_reducible repeat (first | refine blk_drewN ?_ _ | refine blk_drew ?_ | refine blk_alloc ?_ _)); refine blk_put (cs := #[.int .i64 0, .int .i64 0]) ?_ 0 _ rfl; (repeat ((with_reducible repeat (first | refine blk_drewN ?_ _ | refine blk_drew ?_ | refine blk_alloc ?_ _)); refine blk_far ?_ NB168_173.out _)); (with_reducible repeat (first | refine blk_drewN ?_ _ | refine blk_drew ?_ | refine blk_alloc ?_ _)); exact BK168.out) Try.underlying41 rfl (by kernel_rfl)) rfl ?_
 exact bF
/-! ### box_Grow: function 91 -/
def box_Grow.f (k : Nat) (a0_0 : Int) (a0_1 : Int) (a0_2 : Int) (a0_3 : Int) (a1 : Int) : Option (Int × Int × Int × Int × Bool) := (point_Move.f k a0_0 a0_1 (wrap64 (-a1)) (wrap64 (-a1))).bind fun bt180 => ((point_Move.f k a0_2 a0_3 a1 a1).bind fun bt184 => (if a1 < 0 then (some (0, 0, 0, 0, false)) else ((box_Right.f a0_0 a0_1 a0_2 a0_3).bind fun t188 => (if t188 = true then (if bt180.2.2 = true then (if bt184.2.2 = true then (some (bt180.1, bt180.2.1, bt184.1, bt184.2.1, true)) else (some (0, 0, 0, 0, false))) else (some (0, 0, 0, 0, false))) else (some (0, 0, 0, 0, false))))))
theorem box_Grow.mono : ∀ a0 a1 a2 a3 a4 k, LeO (box_Grow.f k a0 a1 a2 a3 a4) (box_Grow.f (k + 1) a0 a1 a2 a3 a4) := by
 intro a0 a1 a2 a3 a4 k
 unfold box_Grow.f
 repeat' first
   | (with_reducible exact point_Move.mono _ _ _ _ _)
   | (with_reducible exact LeO.refl _)
   | (with_reducible exact LeO.none _)
   | (with_reducible refine LeO.ite ?_ ?_)
   | (with_reducible refine LeO.bind ?_ (fun _ => ?_))
   | exact point_Move.mono _ _ _ _ _
   | exact LeO.none _
   | refine LeO.ite ?_ ?_
   | refine LeO.bind ?_ (fun _ => ?_)
set_option maxHeartbeats 8000000 in
set_option maxRecDepth 100000 in
theorem box_Grow.calls (k : Nat) (a0_0 : Int) (a0_1 : Int) (a0_2 : Int) (a0_3 : Int) (a1 : Int) (r1 : Int) (r2 : Int) (r3 : Int) (r4 : Int) (r5 : Bool) (w : World) (h : box_Grow.f k a0_0 a0_1 a0_2 a0_3 a1 = some (r1, r2, r3, r4, r5)) :
  Calls Try.prog 91 #[.agg #[.int .i64 a0_0, .int .i64 a0_1, .int .i64 a0_2, .int .i64 a0_3], .int .i64 a1] w fun e w' => e = .returned (.tuple #[.agg #[.int .i64 r1, .int .i64 r2, .int .i64 r3, .int .i64 r4], .bool r5]) ∧ Below w.heap.size w w' := by
 have hu44 := Try.underlying44
 have hu41 := Try.underlying41
 have HB := bA (Below.refl w.heap.size w)
 have H : ((point_Move.f k a0_0 a0_1 (wrap64 (-a1)) (wrap64 (-a1))).bind fun bt180 => ((point_Move.f k a0_2 a0_3 a1 a1).bind fun bt184 => (if a1 < 0 then (some (0, 0, 0, 0, false)) else ((box_Right.f a0_0 a0_1 a0_2 a0_3).bind fun t188 => (if t188 = true then (if bt180.2.2 = true then (if bt184.2.2 = true then (some (bt180.1, bt180.2.1, bt184.1, bt184.2.1, true)) else (some (0, 0, 0, 0, false))) else (some (0, 0, 0, 0, false))) else (some (0, 0, 0, 0, false))))))) = some (r1, r2, r3, r4, r5) := h
 clear h
 replace H := Option.bind_eq_some_iff.mp H
 obtain ⟨⟨t180, t181, t182⟩, A30, H⟩ := H
 replace H : ((point_Move.f k a0_2 a0_3 a1 a1).bind fun bt184 => (if a1 < 0 then (some (0, 0, 0, 0, false)) else ((box_Right.f a0_0 a0_1 a0_2 a0_3).bind fun t188 => (if t188 = true then (if t182 = true then (if bt184.2.2 = true then (some (t180, t181, bt184.1, bt184.2.1, true)) else (some (0, 0, 0, 0, false))) else (some (0, 0, 0, 0, false))) else (some (0, 0, 0, 0, false)))))) = some (r1, r2, r3, r4, r5) := H
 have A3 := bA A30
 clear A30
 replace H := Option.bind_eq_some_iff.mp H
 obtain ⟨⟨t184, t185, t186⟩, A40, H⟩ := H
 replace H : (if a1 < 0 then (some (0, 0, 0, 0, false)) else ((box_Right.f a0_0 a0_1 a0_2 a0_3).bind fun t188 => (if t188 = true then (if t182 = true then (if t186 = true then (some (t180, t181, t184, t185, true)) else (some (0, 0, 0, 0, false))) else (some (0, 0, 0, 0, false))) else (some (0, 0, 0, 0, false))))) = some (r1, r2, r3, r4, r5) := H
 have A4 := bA A40
 clear A40
 by_cases c5 : a1 < 0
 rw [if_pos c5] at H
 have c5b0 : decide (a1 < 0) = true := decide_eq_true c5
 clear c5
 simp only [Option.some.injEq, Prod.mk.injEq] at H
 obtain ⟨rfl, rfl, rfl, rfl, rfl⟩ := H
 rotate_left
 rw [if_neg c5] at H
 have c5b0 : decide (a1 < 0) = false := decide_eq_false c5
 clear c5
 replace H := Option.bind_eq_some_iff.mp H
 obtain ⟨t188, A230, H⟩ := H
 have A23 := bA A230
 clear A230
 by_cases c24 : t188 = true
 subst c24
 rw [if_pos rfl] at H
 by_cases c25 : t182 = true
 subst c25
 rw [if_pos rfl] at H
 by_cases c26 : t186 = true
 subst c26
 rw [if_pos rfl] at H
 simp only [Option.some.injEq, Prod.mk.injEq] at H
 obtain ⟨rfl, rfl, rfl, rfl, rfl⟩ := H
 rotate_left
 replace c26 := Bool.eq_false_iff.mpr c26
 subst c26
 rw [if_neg bn] at H
 simp only [Option.some.injEq, Prod.mk.injEq] at H
 obtain ⟨rfl, rfl, rfl, rfl, rfl⟩ := H
 rotate_left
 replace c25 := Bool.eq_false_iff.mpr c25
 subst c25
 rw [if_neg bn] at H
 simp only [Option.some.injEq, Prod.mk.injEq] at H
 obtain ⟨rfl, rfl, rfl, rfl, rfl⟩ := H
 rotate_left
 replace c24 := Bool.eq_false_iff.mpr c24
 subst c24
 rw [if_neg bn] at H
 simp only [Option.some.injEq, Prod.mk.injEq] at H
 obtain ⟨rfl, rfl, rfl, rfl, rfl⟩ := H
 rotate_left
 all_goals go_enter Try.func91, Try.ntmps91
 all_goals go_wp2_with (first | ((with_reducible refine gate_dst (N := 2) rfl ?_); refine bE (N := 2) (cs := #[.int .i64 a0_0, .int .i64 a0_1, .int .i64 a0_2, .int .i64 a0_3]) (t := 44) ?_; intro gb178 hg wz0 hbox hb; have BK178 := bA (hbox); have GW178 := bA (bZ hg); have GE178 := bA (bZ hg); replace HB := bA (bS hb); clear hb hbox hg) | ((with_reducible refine gate_dst (N := 4) rfl ?_); refine bE (N := 4) (cs := #[.int .i64 0, .int .i64 0, .int .i64 0, .int .i64 0]) (t := 44) ?_; intro gb179 hg wz1 hbox hb; have BK179 := bA (hbox); have GW179 := bA (bZ hg); have GE179 := bA (bZ hg); have NB178_179 := bA (bL BK178 hg); have NB179_178 := bA (bG BK178 hg); replace BK178 := bA (bB BK178 hb); replace HB := bA (bS hb); clear hb hbox hg; have hz1 := NB178_179.out; have hz2 := NB179_178.out; obtain ⟨hz3, hz4, hz5, hz6, hz7, hz8, hz9, hz10⟩ := bc4 BK178) | ((first | ((with_reducible refine gate_callee (f := 101) rfl ?_); refine bC (some 17) Try.func101 #[.agg #[.int .i64 a0_0, .int .i64 a0_1], .int .i64 (wrap64 (-a1)), .int .i64 (wrap64 (-a1))] ?_) | go_at_call 101); (with_reducible refine (point_Move.calls k a0_0 a0_1 (wrap64 (-a1)) (wrap64 (-a1)) t180 t181 t182 _ A3.out).mono ?_); rintro e wz2 ⟨rfl, hb⟩; (first | refine ⟨_, rfl, ?_⟩ | skip); replace BK178 := bA (bB BK178 hb); replace BK179 := bA (bB BK179 hb); replace HB := bA (bS hb); (try clear hb)) | ((with_reducible refine gate_dst (N := 6) rfl ?_); refine bE (N := 6) (cs := #[.int .i64 0, .int .i64 0]) (t := 41) ?_; intro gb183 hg wz3 hbox hb; have BK183 := bA (hbox); have GW183 := bA (bZ hg); have GE183 := bA (bZ hg); have NB178_183 := bA (bL BK178 hg); have NB183_178 := bA (bG BK178 hg); have NB179_183 := bA (bL BK179 hg); have NB183_179 := bA (bG BK179 hg); replace BK178 := bA (bB BK178 hb); replace BK179 := bA (bB BK179 hb); replace HB := bA (bS hb); clear hb hbox hg; have hz11 := NB183_178.out; have hz12 := NB178_183.out; have hz13 := NB183_179.out; have hz14 := NB179_183.out; obtain ⟨hz15, hz16, hz17, hz18⟩ := bc2 BK183; obtain ⟨hz19, hz20, hz21, hz22, hz7, hz8, hz9, hz10⟩ := bc4 BK178) | ((first | ((with_reducible refine gate_callee (f := 101) rfl ?_); refine bC (some 25) Try.func101 #[.agg #[.int .i64 a0_2, .int .i64 a0_3], .int .i64 a1, .int .i64 a1] ?_) | go_at_call 101); (with_reducible refine (point_Move.calls k a0_2 a0_3 a1 a1 t184 t185 t186 _ A4.out).mono ?_); rintro e wz4 ⟨rfl, hb⟩; (first | refine ⟨_, rfl, ?_⟩ | skip); replace BK178 := bA (blk_below (g := gb178) (o := .cells #[.int .i64 a0_0, .int .i64 a0_1, .int .i64 a0_2, .int .i64 a0_3] 44 (0, 0)) (by (repeat ((with_reducible repeat (first | refine blk_drewN ?_ _ | refine blk_drew ?_ | refine blk_alloc ?_ _)); refine blk_far ?_ NB178_183.out _)); (with_reducible repeat (first | refine blk_drewN ?_ _ | refine blk_drew ?_ | refine blk_alloc ?_ _)); exact BK178.out) hb); replace BK179 := bA (blk_below (g := gb179) (o := .cells #[.int .i64 0, .int .i64 0, .int .i64 0, .int .i64 0] 44 (0, 0)) (by (repeat ((with_reducible repeat (first | refine blk_drewN ?_ _ | refine blk_drew ?_ | refine blk_alloc ?_ _)); refine blk_far ?_ NB179_183.out _)); (with_reducible repeat (first | refine blk_drewN ?_ _ | refine blk_drew ?_ | refine blk_alloc ?_ _)); exact BK179.out) hb); replace BK183 := bA (blk_below (g := gb183) (o := .cells #[.int .i64 t180, .int .i64 t181] 41 (0, 0)) (by (with_reducible repeat (first | refine blk_drewN ?_ _ | refine blk_drew ?_ | refine blk_alloc ?_ _)); refine blk_put (cs := #[.int .i64 t180, .int .i64 0]) ?_ 1 _ rfl; (with_reducible repeat (first | refine blk_drewN ?_ _ | refine blk_drew ?_ | refine blk_alloc ?_ _)); refine blk_put (cs := #[.int .i64 0, .int .i64 0]) ?_ 0 _ rfl; (with_reducible repeat (first | refine blk_drewN ?_ _ | refine blk_drew ?_ | refine blk_alloc ?_ _)); exact BK183.out) hb); replace HB := bA (bS hb); (try clear hb)) | ((with_reducible refine gate_dst (N := 8) rfl ?_); refine bE (N := 8) (cs := #[.int .i64 0, .int .i64 0]) (t := 41) ?_; intro gb187 hg wz5 hbox hb; have BK187 := bA (hbox); have GW187 := bA (bZ hg); have GE187 := bA (bZ hg); have NB178_187 := bA (bL BK178 hg); have NB187_178 := bA (bG BK178 hg); have NB179_187 := bA (bL BK179 hg); have NB187_179 := bA (bG BK179 hg); have NB183_187 := bA (bL BK183 hg); have NB187_183 := bA (bG BK183 hg); replace BK178 := bA (bB BK178 hb); replace BK179 := bA (bB BK179 hb); replace BK183 := bA (bB BK183 hb); replace HB := bA (bS hb); clear hb hbox hg; have hz23 := NB187_178.out; have hz24 := NB178_187.out; have hz25 := NB187_179.out; have hz26 := NB179_187.out; have hz27 := NB187_183.out; have hz28 := NB183_187.out; obtain ⟨hz29, hz30, hz31, hz32⟩ := bc2 BK187; obtain ⟨hz33, hz34, hz35, hz36, hz37, hz38, hz39, hz40⟩ := bc4 BK179; obtain ⟨hz41, hz42, hz43, hz44, hz7, hz8, hz9, hz10⟩ := bc4 BK178) | ((first | ((with_reducible refine gate_callee (f := 101) rfl ?_); refine bC (some 17) Try.func101 #[.agg #[.int .i64 a0_0, .int .i64 a0_1], .int .i64 (wrap64 (-a1)), .int .i64 (wrap64 (-a1))] ?_) | go_at_call 101); (with_reducible refine (point_Move.calls k a0_0 a0_1 (wrap64 (-a1)) (wrap64 (-a1)) t180 t181 true _ A3.out).mono ?_); rintro e wz2 ⟨rfl, hb⟩; (first | refine ⟨_, rfl, ?_⟩ | skip); replace BK178 := bA (bB BK178 hb); replace BK179 := bA (bB BK179 hb); replace HB := bA (bS hb); (try clear hb)) | ((first | ((with_reducible refine gate_callee (f := 101) rfl ?_); refine bC (some 25) Try.func101 #[.agg #[.int .i64 a0_2, .int .i64 a0_3], .int .i64 a1, .int .i64 a1] ?_) | go_at_call 101); (with_reducible refine (point_Move.calls k a0_2 a0_3 a1 a1 t184 t185 true _ A4.out).mono ?_); rintro e wz4 ⟨rfl, hb⟩; (first | refine ⟨_, rfl, ?_⟩ | skip); replace BK178 := bA (blk_below (g := gb178) (o := .cells #[.int .i64 a0_0, .int .i64 a0_1, .int .i64 a0_2, .int .i64 a0_3] 44 (0, 0)) (by (repeat ((with_reducible repeat (first | refine blk_drewN ?_ _ | refine blk_drew ?_ | refine blk_alloc ?_ _)); refine blk_far ?_ NB178_183.out _)); (with_reducible repeat (first | refine blk_drewN ?_ _ | refine blk_drew ?_ | refine blk_alloc ?_ _)); exact BK178.out) hb); replace BK179 := bA (blk_below (g := gb179) (o := .cells #[.int .i64 0, .int .i64 0, .int .i64 0, .int .i64 0] 44 (0, 0)) (by (repeat ((with_reducible repeat (first | refine blk_drewN ?_ _ | refine blk_drew ?_ | refine blk_alloc ?_ _)); refine blk_far ?_ NB179_183.out _)); (with_reducible repeat (first | refine blk_drewN ?_ _ | refine blk_drew ?_ | refine blk_alloc ?_ _)); exact BK179.out) hb); replace BK183 := bA (blk_below (g := gb183) (o := .cells #[.int .i64 t180, .int .i64 t181] 41 (0, 0)) (by (with_reducible repeat (first | refine blk_drewN ?_ _ | refine blk_drew ?_ | refine blk_alloc ?_ _)); refine blk_put (cs := #[.int .i64 t180, .int .i64 0]) ?_ 1 _ rfl; (with_reducible repeat (first | refine blk_drewN ?_ _ | refine blk_drew ?_ | refine blk_alloc ?_ _)); refine blk_put (cs := #[.int .i64 0, .int .i64 0]) ?_ 0 _ rfl; (with_reducible repeat (first | refine blk_drewN ?_ _ | refine blk_drew ?_ | refine blk_alloc ?_ _)); exact BK183.out) hb); replace HB := bA (bS hb); (try clear hb)) | (go_at_call 87; (with_reducible refine (box_Right.calls a0_0 a0_1 a0_2 a0_3 true _ A23.out).mono ?_); rintro e wz6 ⟨rfl, hb⟩; replace BK178 := bA (blk_below (g := gb178) (o := .cells #[.int .i64 a0_0, .int .i64 a0_1, .int .i64 a0_2, .int .i64 a0_3] 44 (0, 0)) (by (repeat ((with_reducible repeat (first | refine blk_drewN ?_ _ | refine blk_drew ?_ | refine blk_alloc ?_ _)); refine blk_far ?_ NB178_187.out _)); (with_reducible repeat (first | refine blk_drewN ?_ _ | refine blk_drew ?_ | refine blk_alloc ?_ _)); exact BK178.out) hb); replace BK179 := bA (blk_below (g := gb179) (o := .cells #[.int .i64 0, .int .i64 0, .int .i64 0, .int .i64 0] 44 (0, 0)) (by (repeat ((with_reducible repeat (first | refine blk_drewN ?_ _ | refine blk_drew ?_ | refine blk_alloc ?_ _)); refine blk_far ?_ NB179_187.out _)); (with_reducible repeat (first | refine blk_drewN ?_ _ | refine blk_drew ?_ | refine blk_alloc ?_ _)); exact BK179.out) hb); replace BK183 := bA (blk_below (g := gb183) (o := .cells #[.int .i64 t180, .int .i64 t181] 41 (0, 0)) (by (repeat ((with_reducible repeat (first | refine blk_drewN ?_ _ | refine blk_drew ?_ | refine blk_alloc ?_ _)); refine blk_far ?_ NB183_187.out _)); (with_reducible repeat (first | refine blk_drewN ?_ _ | refine blk_drew ?_ | refine blk_alloc ?_ _)); exact BK183.out) hb); replace BK187 := bA (blk_below (g := gb187) (o := .cells #[.int .i64 t184, .int .i64 t185] 41 (0, 0)) (by (with_reducible repeat (first | refine blk_drewN ?_ _ | refine blk_drew ?_ | refine blk_alloc ?_ _)); refine blk_put (cs := #[.int .i64 t184, .int .i64 0]) ?_ 1 _ rfl; (with_reducible repeat (first | refine blk_drewN ?_ _ | refine blk_drew ?_ | refine blk_alloc ?_ _)); refine blk_put (cs := #[.int .i64 0, .int .i64 0]) ?_ 0 _ rfl; (with_reducible repeat (first | refine blk_drewN ?_ _ | refine blk_drew ?_ | refine blk_alloc ?_ _)); exact BK187.out) hb); replace HB := bA (bS hb); (try clear hb); obtain ⟨hz45, hz46, hz17, hz18⟩ := bc2 BK183; obtain ⟨hz47, hz48, hz31, hz32⟩ := bc2 BK187; obtain ⟨hz49, hz50, hz51, hz52, hz37, hz38, hz39, hz40⟩ := bc4 BK179) | ((first | ((with_reducible refine gate_callee (f := 101) rfl ?_); refine bC (some 25) Try.func101 #[.agg #[.int .i64 a0_2, .int .i64 a0_3], .int .i64 a1, .int .i64 a1] ?_) | go_at_call 101); (with_reducible refine (point_Move.calls k a0_2 a0_3 a1 a1 t184 t185 false _ A4.out).mono ?_); rintro e wz4 ⟨rfl, hb⟩; (first | refine ⟨_, rfl, ?_⟩ | skip); replace BK178 := bA (blk_below (g := gb178) (o := .cells #[.int .i64 a0_0, .int .i64 a0_1, .int .i64 a0_2, .int .i64 a0_3] 44 (0, 0)) (by (repeat ((with_reducible repeat (first | refine blk_drewN ?_ _ | refine blk_drew ?_ | refine blk_alloc ?_ _)); refine blk_far ?_ NB178_183.out _)); (with_reducible repeat (first | refine blk_drewN ?_ _ | refine blk_drew ?_ | refine blk_alloc ?_ _)); exact BK178.out) hb); replace BK179 := bA (blk_below (g := gb179) (o := .cells #[.int .i64 0, .int .i64 0, .int .i64 0, .int .i64 0] 44 (0, 0)) (by (repeat ((with_reducible repeat (first | refine blk_drewN ?_ _ | refine blk_drew ?_ | refine blk_alloc ?_ _)); refine blk_far ?_ NB179_183.out _)); (with_reducible repeat (first | refine blk_drewN ?_ _ | refine blk_drew ?_ | refine blk_alloc ?_ _)); exact BK179.out) hb); replace BK183 := bA (blk_below (g := gb183) (o := .cells #[.int .i64 t180, .int .i64 t181] 41 (0, 0)) (by (with_reducible repeat (first | refine blk_drewN ?_ _ | refine blk_drew ?_ | refine blk_alloc ?_ _)); refine blk_put (cs := #[.int .i64 t180, .int .i64 0]) ?_ 1 _ rfl; (with_reducible repeat (first | refine blk_drewN ?_ _ | refine blk_drew ?_ | refine blk_alloc ?_ _)); refine blk_put (cs := #[.int .i64 0, .int .i64 0]) ?_ 0 _ rfl; (with_reducible repeat (first | refine blk_drewN ?_ _ | refine blk_drew ?_ | refine blk_alloc ?_ _)); exact BK183.out) hb); replace HB := bA (bS hb); (try clear hb)) | ((first | ((with_reducible refine gate_callee (f := 101) rfl ?_); refine bC (some 17) Try.func101 #[.agg #[.int .i64 a0_0, .int .i64 a0_1], .int .i64 (wrap64 (-a1)), .int .i64 (wrap64 (-a1))] ?_) | go_at_call 101); (with_reducible refine (point_Move.calls k a0_0 a0_1 (wrap64 (-a1)) (wrap64 (-a1)) t180 t181 false _ A3.out).mono ?_); rintro e wz2 ⟨rfl, hb⟩; (first | refine ⟨_, rfl, ?_⟩ | skip); replace BK178 := bA (bB BK178 hb); replace BK179 := bA (bB BK179 hb); replace HB := bA (bS hb); (try clear hb)) | (go_at_call 87; (with_reducible refine (box_Right.calls a0_0 a0_1 a0_2 a0_3 false _ A23.out).mono ?_); rintro e wz6 ⟨rfl, hb⟩; replace BK178 := bA (blk_below (g := gb178) (o := .cells #[.int .i64 a0_0, .int .i64 a0_1, .int .i64 a0_2, .int .i64 a0_3] 44 (0, 0)) (by (repeat ((with_reducible repeat (first | refine blk_drewN ?_ _ | refine blk_drew ?_ | refine blk_alloc ?_ _)); refine blk_far ?_ NB178_187.out _)); (with_reducible repeat (first | refine blk_drewN ?_ _ | refine blk_drew ?_ | refine blk_alloc ?_ _)); exact BK178.out) hb); replace BK179 := bA (blk_below (g := gb179) (o := .cells #[.int .i64 0, .int .i64 0, .int .i64 0, .int .i64 0] 44 (0, 0)) (by (repeat ((with_reducible repeat (first | refine blk_drewN ?_ _ | refine blk_drew ?_ | refine blk_alloc ?_ _)); refine blk_far ?_ NB179_187.out _)); (with_reducible repeat (first | refine blk_drewN ?_ _ | refine blk_drew ?_ | refine blk_alloc ?_ _)); exact BK179.out) hb); replace BK183 := bA (blk_below (g := gb183) (o := .cells #[.int .i64 t180, .int .i64 t181] 41 (0, 0)) (by (repeat ((with_reducible repeat (first | refine blk_drewN ?_ _ | refine blk_drew ?_ | refine blk_alloc ?_ _)); refine blk_far ?_ NB183_187.out _)); (with_reducible repeat (first | refine blk_drewN ?_ _ | refine blk_drew ?_ | refine blk_alloc ?_ _)); exact BK183.out) hb); replace BK187 := bA (blk_below (g := gb187) (o := .cells #[.int .i64 t184, .int .i64 t185] 41 (0, 0)) (by (with_reducible repeat (first | refine blk_drewN ?_ _ | refine blk_drew ?_ | refine blk_alloc ?_ _)); refine blk_put (cs := #[.int .i64 t184, .int .i64 0]) ?_ 1 _ rfl; (with_reducible repeat (first | refine blk_drewN ?_ _ | refine blk_drew ?_ | refine blk_alloc ?_ _)); refine blk_put (cs := #[.int .i64 0, .int .i64 0]) ?_ 0 _ rfl; (with_reducible repeat (first | refine blk_drewN ?_ _ | refine blk_drew ?_ | refine blk_alloc ?_ _)); exact BK187.out) hb); replace HB := bA (bS hb); (try clear hb); obtain ⟨hz49, hz50, hz51, hz52, hz37, hz38, hz39, hz40⟩ := bc4 BK179))
 ·refine bodyPost_ret (results_ct rfl _ _ gb179 44 #[.int .i64 0, .int .i64 0, .int .i64 0, .int .i64 0] (0, 0) _ rfl (by (with_reducible repeat (first | refine blk_drewN ?_ _ | refine blk_drew ?_ | refine blk_alloc ?_ _)); refine blk_put (cs := #[.int .i64 0, .int .i64 0, .int .i64 0, .int .i64 0]) ?_ 3 _ rfl; (with_reducible repeat (first | refine blk_drewN ?_ _ | refine blk_drew ?_ | refine blk_alloc ?_ _)); refine blk_put (cs := #[.int .i64 0, .int .i64 0, .int .i64 0, .int .i64 0]) ?_ 2 _ rfl; (with_reducible repeat (first | refine blk_drewN ?_ _ | refine blk_drew ?_ | refine blk_alloc ?_ _)); refine blk_put (cs := #[.int .i64 0, .int .i64 0, .int .i64 0, .int .i64 0]) ?_ 1 _ rfl; (with_reducible repeat (first | refine blk_drewN ?_ _ | refine blk_drew ?_ | refine blk_alloc ?_ _)); refine blk_put (cs := #[.int .i64 0, .int .i64 0, .int .i64 0, .int .i64 0]) ?_ 0 _ rfl; (repeat ((with_reducible repeat (first | refine blk_drewN ?_ _ | refine blk_drew ?_ | refine blk_alloc ?_ _)); refine blk_far ?_ NB179_187.out _)); (with_reducible repeat (first | refine blk_drewN ?_ _ | refine blk_drew ?_ | refine blk_alloc ?_ _)); exact BK179.out) Try.underlying44 rfl (by kernel_rfl)) rfl ?_
  exact bF
 ·refine bodyPost_ret (results_ct rfl _ _ gb179 44 #[.int .i64 t180, .int .i64 t181, .int .i64 t184, .int .i64 t185] (0, 0) _ rfl (by (with_reducible repeat (first | refine blk_drewN ?_ _ | refine blk_drew ?_ | refine blk_alloc ?_ _)); refine blk_put (cs := #[.int .i64 t180, .int .i64 t181, .int .i64 t184, .int .i64 0]) ?_ 3 _ rfl; (with_reducible repeat (first | refine blk_drewN ?_ _ | refine blk_drew ?_ | refine blk_alloc ?_ _)); refine blk_put (cs := #[.int .i64 t180, .int .i64 t181, .int .i64 0, .int .i64 0]) ?_ 2 _ rfl; (with_reducible repeat (first | refine blk_drewN ?_ _ | refine blk_drew ?_ | refine blk_alloc ?_ _)); refine blk_put (cs := #[.int .i64 t180, .int .i64 0, .int .i64 0, .int .i64 0]) ?_ 1 _ rfl; (with_reducible repeat (first | refine blk_drewN ?_ _ | refine blk_drew ?_ | refine blk_alloc ?_ _)); refine blk_put (cs := #[.int .i64 0, .int .i64 0, .int .i64 0, .int .i64 0]) ?_ 0 _ rfl; (with_reducible repeat (first | refine blk_drewN ?_ _ | refine blk_drew ?_ | refine blk_alloc ?_ _)); exact BK179.out) Try.underlying44 rfl (by kernel_rfl)) rfl ?_
  exact bF
 ·refine bodyPost_ret (results_ct rfl _ _ gb179 44 #[.int .i64 0, .int .i64 0, .int .i64 0, .int .i64 0] (0, 0) _ rfl (by (with_reducible repeat (first | refine blk_drewN ?_ _ | refine blk_drew ?_ | refine blk_alloc ?_ _)); refine blk_put (cs := #[.int .i64 0, .int .i64 0, .int .i64 0, .int .i64 0]) ?_ 3 _ rfl; (with_reducible repeat (first | refine blk_drewN ?_ _ | refine blk_drew ?_ | refine blk_alloc ?_ _)); refine blk_put (cs := #[.int .i64 0, .int .i64 0, .int .i64 0, .int .i64 0]) ?_ 2 _ rfl; (with_reducible repeat (first | refine blk_drewN ?_ _ | refine blk_drew ?_ | refine blk_alloc ?_ _)); refine blk_put (cs := #[.int .i64 0, .int .i64 0, .int .i64 0, .int .i64 0]) ?_ 1 _ rfl; (with_reducible repeat (first | refine blk_drewN ?_ _ | refine blk_drew ?_ | refine blk_alloc ?_ _)); refine blk_put (cs := #[.int .i64 0, .int .i64 0, .int .i64 0, .int .i64 0]) ?_ 0 _ rfl; (with_reducible repeat (first | refine blk_drewN ?_ _ | refine blk_drew ?_ | refine blk_alloc ?_ _)); exact BK179.out) Try.underlying44 rfl (by kernel_rfl)) rfl ?_
  exact bF
 ·refine bodyPost_ret (results_ct rfl _ _ gb179 44 #[.int .i64 0, .int .i64 0, .int .i64 0, .int .i64 0] (0, 0) _ rfl (by (with_reducible repeat (first | refine blk_drewN ?_ _ | refine blk_drew ?_ | refine blk_alloc ?_ _)); refine blk_put (cs := #[.int .i64 0, .int .i64 0, .int .i64 0, .int .i64 0]) ?_ 3 _ rfl; (with_reducible repeat (first | refine blk_drewN ?_ _ | refine blk_drew ?_ | refine blk_alloc ?_ _)); refine blk_put (cs := #[.int .i64 0, .int .i64 0, .int .i64 0, .int .i64 0]) ?_ 2 _ rfl; (with_reducible repeat (first | refine blk_drewN ?_ _ | refine blk_drew ?_ | refine blk_alloc ?_ _)); refine blk_put (cs := #[.int .i64 0, .int .i64 0, .int .i64 0, .int .i64 0]) ?_ 1 _ rfl; (with_reducible repeat (first | refine blk_drewN ?_ _ | refine blk_drew ?_ | refine blk_alloc ?_ _)); refine blk_put (cs := #[.int .i64 0, .int .i64 0, .int .i64 0, .int .i64 0]) ?_ 0 _ rfl; (with_reducible repeat (first | refine blk_drewN ?_ _ | refine blk_drew ?_ | refine blk_alloc ?_ _)); exact BK179.out) Try.underlying44 rfl (by kernel_rfl)) rfl ?_
  exact bF
 refine bodyPost_ret (results_ct rfl _ _ gb179 44 #[.int .i64 0, .int .i64 0, .int .i64 0, .int .i64 0] (0, 0) _ rfl (by (with_reducible repeat (first | refine blk_drewN ?_ _ | refine blk_drew ?_ | refine blk_alloc ?_ _)); refine blk_put (cs := #[.int .i64 0, .int .i64 0, .int .i64 0, .int .i64 0]) ?_ 3 _ rfl; (with_reducible repeat (first | refine blk_drewN ?_ _ | refine blk_drew ?_ | refine blk_alloc ?_ _)); refine blk_put (cs := #[.int .i64 0, .int .i64 0, .int .i64 0, .int .i64 0]) ?_ 2 _ rfl; (with_reducible repeat (first | refine blk_drewN ?_ _ | refine blk_drew ?_ | refine blk_alloc ?_ _)); refine blk_put (cs := #[.int .i64 0, .int .i64 0, .int .i64 0, .int .i64 0]) ?_ 1 _ rfl; (with_reducible repeat (first | refine blk_drewN ?_ _ | refine blk_drew ?_ | refine blk_alloc ?_ _)); refine blk_put (cs := #[.int .i64 0, .int .i64 0, .int .i64 0, .int .i64 0]) ?_ 0 _ rfl; (with_reducible repeat (first | refine blk_drewN ?_ _ | refine blk_drew ?_ | refine blk_alloc ?_ _)); exact BK179.out) Try.underlying44 rfl (by kernel_rfl)) rfl ?_
 exact bF
end Go.Proofs.Ytjmibjmlihmglaa.G
