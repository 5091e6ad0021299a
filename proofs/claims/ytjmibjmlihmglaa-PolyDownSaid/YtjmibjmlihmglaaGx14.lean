-- Written by a program of this session out of the translation; Lean checks it.
import Derived.Test.YtjmibjmlihmglaaGx0
import Derived.Test.YtjmibjmlihmglaaGx1
import Derived.Test.YtjmibjmlihmglaaGx2
import Derived.Test.YtjmibjmlihmglaaGx6
import Derived.Test.YtjmibjmlihmglaaGx10
import Derived.Test.YtjmibjmlihmglaaGx11
import Derived.Test.YtjmibjmlihmglaaGx12
import Derived.Test.YtjmibjmlihmglaaGx13
namespace Go.Proofs.Ytjmibjmlihmglaa.G
open Go.RowKit Go.Proofs.YtjmibjmlihmglaaW.PrintWords Go.Proofs.YtjmibjmlihmglaaW.PrintLast Go.Proofs.YtjmibjmlihmglaaW.PrintMore
attribute [local go_sem] max2_int min2_int max_two min_two max_three min_three max_four min_four   -- for this text's walks alone
set_option linter.unusedVariables false
set_option linter.unusedSimpArgs false

attribute [local go_sem high] eqA41 eqA44
/-! ### poly_Back: function 37 -/
def rev1_Point.l0 : Nat → Int → List (S41) → Int → Int → Option ((List (S41)))
 | 0, _, _, _, _ => none
 | k + 1, n, x0, x2, x3 => if x2 < x3 then (if 0 ≤ x3 then (if x3 < n then (if 0 ≤ x2 then (if x2 < n then (rev1_Point.l0 k n ((x0.set (x2 + 1 : Int).toNat (⟨(rd_T41 x0 (x3 + 1)).f0, (rd_T41 x0 (x3 + 1)).f1⟩ : S41)).set (x3 + 1 : Int).toNat (⟨(rd_T41 x0 (x2 + 1)).f0, (rd_T41 x0 (x2 + 1)).f1⟩ : S41)) (wrap64 (x2 + 1)) (wrap64 (x3 - 1))) else (none)) else (none)) else (none)) else (none)) else (some x0)
def rev1_Point.f (k : Nat) (n : Nat) (l0 : List (S41)) : Option ((List (S41))) := rev1_Point.l0 k (n : Int) l0 0 (wrap64 ((n : Int) - 1))
theorem rev1_Point.mono_l : ∀ k, (∀ n y0 y1 y2, LeO (rev1_Point.l0 k n y0 y1 y2) (rev1_Point.l0 (k + 1) n y0 y1 y2))
 | 0 => fun _ _ _ _ r h => by simp [rev1_Point.l0] at h
 | k + 1 => by
  have ih0 := rev1_Point.mono_l k
  ·intro n y0 y1 y2
   unfold rev1_Point.l0
   repeat' first
   | (with_reducible exact ih0 _ _ _ _)
   | (with_reducible exact LeO.refl _)
   | (with_reducible exact LeO.none _)
   | (with_reducible refine LeO.ite ?_ ?_)
   | (with_reducible refine LeO.bind ?_ (fun _ => ?_))
   | exact ih0 _ _ _ _
   | exact LeO.none _
   | refine LeO.ite ?_ ?_
   | refine LeO.bind ?_ (fun _ => ?_)
theorem rev1_Point.mono : ∀ n a0 k, LeO (rev1_Point.f k n a0) (rev1_Point.f (k + 1) n a0) := by
 intro n a0 k
 have ih0 := rev1_Point.mono_l k
 unfold rev1_Point.f
 repeat' first
   | (with_reducible exact ih0 _ _ _ _)
   | (with_reducible exact LeO.refl _)
   | (with_reducible exact LeO.none _)
   | (with_reducible refine LeO.ite ?_ ?_)
   | (with_reducible refine LeO.bind ?_ (fun _ => ?_))
   | exact ih0 _ _ _ _
   | exact LeO.none _
   | refine LeO.ite ?_ ?_
   | refine LeO.bind ?_ (fun _ => ?_)
def rev1_Point.T3 : Bool × List (List Nat × List Nat) := (true, [([], []), ([], []), ([], []), ([], []), ([], []), ([], []), ([4, 5], [4, 5]), ([6], [6]), ([], []), ([], []), ([8, 9], [8, 9]), ([10], [10]), ([0, 1, 0, 1, 4, 5, 6, 7, 11], [0, 1]), ([12, 7, 0, 1, 4, 5, 6, 7, 11], [7, 12]), ([2, 3, 0, 1, 2, 3, 4, 5, 6, 7, 8, 9, 10, 11, 12, 13], [2, 3]), ([14, 11, 13, 0, 1, 2, 3, 4, 5, 6, 7, 8, 9, 10, 11, 12, 13], [11, 14])])
def rev1_Point.B3 : List Nat := [0, 0, 0, 0, 0, 0, 48, 112, 0, 0, 768, 1792, 4083, 8179, 16383, 32767]
theorem rev1_Point.tab3 : rtab .any (opsOf Try.f84 3) = rev1_Point.T3 := by kernel_rfl
theorem rev1_Point.bits3 : waitsOk rev1_Point.T3.2 rev1_Point.B3 = true := by kernel_rfl
set_option maxHeartbeats 8000000 in
set_option maxRecDepth 100000 in
theorem rev1_Point.calls (k n c g : Nat) (P0_ : Nat → Prop) (l0 : List (S41)) (r : List (S41)) (w0 w : World) (hn : l0.length = n + 1) (hB : Below w0.heap.size w0 w) (ho0 : Kd.R k41 41 w w0.heap.size P0_ (.slice (some ⟨g, 0, none⟩) l0.length c) l0) (h : rev1_Point.f k n l0 = some r) :
  Calls Try.prog 84 #[.slice (some ⟨g, 2, none⟩) n (c - 1)] w fun e w' => e = .returned (.tuple #[]) ∧ Kd.R k41 41 w' w0.heap.size (fun k_ => (P0_ k_ ∨ w.heap.size ≤ k_)) (.slice (some ⟨g, 0, none⟩) l0.length c) r ∧ Below w0.heap.size w0 w' ∧ Kept w w' (fun k_ => P0_ k_) := by
 have hu41 := Try.underlying41
 have HO0 := bA (show Kd.R k41 41 w w0.heap.size (fun k_ => (P0_ k_ ∨ w.heap.size ≤ k_)) (.slice (some ⟨g, 0, none⟩) l0.length c) l0 from Kd.R_mono ho0 (fun k_ hk => (.inl hk)))
 have HK := bA (Kept.refl w (fun k_ => P0_ k_))
 have HW0 := bA hB.size
 have HB := bA hB
 clear hB
 have H : (rev1_Point.l0 k (n : Int) l0 0 (wrap64 ((n : Int) - 1))) = some r := h
 clear h
 have H' := bA H
 clear H
 go_enter Try.func84, Try.ntmps84
 go_wp2
 go_loopg [2, 3] k (fun kq v2 v3 w' => ∃ (x0_1 : List (S41)) (x2_1 : Int) (x3_1 : Int), v2 = .int .i64 x2_1 ∧ v3 = .int .i64 x3_1 ∧ Aside0 (rev1_Point.l0 kq (n : Int) x0_1 x2_1 x3_1 = some r) ∧ Aside0 (kq ≤ k) ∧ Aside0 (Kd.R k41 41 w' w0.heap.size (fun k_ => (P0_ k_ ∨ w.heap.size ≤ k_)) (.slice (some ⟨g, 0, none⟩) l0.length c) x0_1) ∧ Aside0 (Kept w w' (fun k_ => P0_ k_)) ∧ Aside0 (Below w0.heap.size w0 w'))
 case atStart => exact ⟨(l0), (0), (wrap64 ((n : Int) - 1)), bs, bs, H', ⟨Nat.le_refl _⟩, ⟨bRr HO0⟩, ⟨by repeat (first | (with_reducible first | exact HK.out | apply Kept.alloc | apply Kept.drewN | apply Kept.drew) | exact HK.out)⟩, ⟨bX⟩⟩
 clear H'
 try clear p2
 obtain ⟨x0_1, x2_1, x3_1, rfl, rfl, HA, HK1, HO_0, HK, HB⟩ := hrel
 have hl0_1 := (Kd.R_reads' HO_0.out).1
 cases gk with
 | zero => exact absurd HA.out (by simp [rev1_Point.l0])
 | succ k1 =>
  have H := HA.out
  clear HA
  simp only [rev1_Point.l0] at H
  by_cases c3 : x2_1 < x3_1
  rotate_left
  ·rw [if_neg c3] at H
   have c3b0 : decide (x2_1 < x3_1) = false := decide_eq_false c3
   clear c3
   obtain rfl := Option.some.inj H
   go_wp2
   first | go_end0 | ((try simp only [Exit.inBlock, Exit.then]); refine bodyPost_ret (results_none rfl _ _ _) rfl ?_)
   exact ⟨by first | rfl | (simp [errW_none, errW_some] <;> rfl) | (simp [*, errW_none, errW_some] <;> rfl), (by first | exact (by (with_reducible repeat (first | apply Kd.R_alloc | apply Kd.R_drewN | apply Kd.R_drew)); (first | exact HO_0.out | (have h_ := HO_0.out; rw [hn] at h_; exact h_)))), by repeat (first | (with_reducible first | exact HB.out | apply below_alloc | apply pw_below_drewN | apply below_drew1) | exact HB.out), by repeat (first | (with_reducible first | exact HK.out | apply Kept.alloc | apply Kept.drewN | apply Kept.drew) | exact HK.out)⟩
  rw [if_pos c3] at H
  have c3b0 : decide (x2_1 < x3_1) = true := decide_eq_true c3
  clear c3
  by_cases c4 : 0 ≤ x3_1
  rotate_left
  ·rw [if_neg c4] at H
   exact absurd H (by simp)
  rw [if_pos c4] at H
  have c4b0 : decide (0 ≤ x3_1) = true := decide_eq_true c4
  clear c4
  by_cases c5 : x3_1 < (n : Int)
  rotate_left
  ·rw [if_neg c5] at H
   exact absurd H (by simp)
  rw [if_pos c5] at H
  have c5b0 : decide (x3_1 < (n : Int)) = true := decide_eq_true c5
  clear c5
  by_cases c6 : 0 ≤ x2_1
  rotate_left
  ·rw [if_neg c6] at H
   exact absurd H (by simp)
  rw [if_pos c6] at H
  have c6b0 : decide (0 ≤ x2_1) = true := decide_eq_true c6
  clear c6
  by_cases c7 : x2_1 < (n : Int)
  rotate_left
  ·rw [if_neg c7] at H
   exact absurd H (by simp)
  rw [if_pos c7] at H
  have c7b0 : decide (x2_1 < (n : Int)) = true := decide_eq_true c7
  clear c7
  obtain ⟨y685, hy685⟩ : ∃ y_ : List (S41), y_ = (x0_1.set (x2_1 + 1 : Int).toNat (⟨(rd_T41 x0_1 (x3_1 + 1)).f0, (rd_T41 x0_1 (x3_1 + 1)).f1⟩ : S41)) := ⟨_, rfl⟩
  replace H : (rev1_Point.l0 k1 (n : Int) (y685.set (x3_1 + 1 : Int).toNat (⟨(rd_T41 x0_1 (x2_1 + 1)).f0, (rd_T41 x0_1 (x2_1 + 1)).f1⟩ : S41)) (wrap64 (x2_1 + 1)) (wrap64 (x3_1 - 1))) = some r := by first | (rw [hy685]; with_reducible exact H) | (have H2_ := (Option.bind_some _ _).symm.trans H; rw [hy685]; with_reducible exact H2_) | (have H2_ := (Option.bind_some _ _).symm.trans H; with_reducible exact H2_) | with_reducible exact H | (rw [hy685]; exact H) | exact H
  have Ny685 := bA hy685
  clear hy685
  obtain ⟨y686, hy686⟩ : ∃ y_ : List (S41), y_ = (y685.set (x3_1 + 1 : Int).toNat (⟨(rd_T41 x0_1 (x2_1 + 1)).f0, (rd_T41 x0_1 (x2_1 + 1)).f1⟩ : S41)) := ⟨_, rfl⟩
  replace H : (rev1_Point.l0 k1 (n : Int) y686 (wrap64 (x2_1 + 1)) (wrap64 (x3_1 - 1))) = some r := by first | (rw [hy686]; with_reducible exact H) | (have H2_ := (Option.bind_some _ _).symm.trans H; rw [hy686]; with_reducible exact H2_) | (have H2_ := (Option.bind_some _ _).symm.trans H; with_reducible exact H2_) | with_reducible exact H | (rw [hy686]; exact H) | exact H
  have Ny686 := bA hy686
  clear hy686
  have H' := bA H
  clear H
  try go_wp2
  replace HO_0 := bA (Kd.R_drew HO_0.out)
  replace HK := bA (Kept.drew HK.out)
  replace HB := bA (below_drew1 HB.out)
  have p683 : 0 ≤ (x3_1 + 1 : Int) := by have := of_decide_eq_true c4b0; omega
  have q683 : (x3_1 + 1 : Int) < (x0_1.length : Int) := by have := of_decide_eq_true c5b0; omega
  obtain ⟨ad683, e683, hx683_0, hx683_1⟩ := at_T41 (Kd.R_reads' HO_0.out).2.2 (x3_1 + 1) p683 q683
  cases e683
  have p684 : 0 ≤ (x2_1 + 1 : Int) := by have := of_decide_eq_true c6b0; omega
  have q684 : (x2_1 + 1 : Int) < (x0_1.length : Int) := by have := of_decide_eq_true c7b0; omega
  obtain ⟨ad684, e684, hx684_0, hx684_1⟩ := at_T41 (Kd.R_reads' HO_0.out).2.2 (x2_1 + 1) p684 q684
  cases e684
  obtain ⟨a3_, ha3⟩ : ∃ a_ : Nat, 2 + (x3_1 : Int).toNat * 2 = a_ := ⟨_, rfl⟩
  obtain ⟨a2_, ha2⟩ : ∃ a_ : Nat, 2 + (x2_1 : Int).toNat * 2 = a_ := ⟨_, rfl⟩
  have E3 : (x3_1 + 1 : Int).toNat * 2 = a3_ := by have := of_decide_eq_true c4b0; omega
  have E2 : (x2_1 + 1 : Int).toNat * 2 = a2_ := by have := of_decide_eq_true c6b0; omega
  have p8 : 0 ≤ (x2_1 + 1 : Int) := by have := of_decide_eq_true c6b0; omega
  have q8 : (x2_1 + 1 : Int) < (x0_1.length : Int) := by have := of_decide_eq_true c7b0; omega
  obtain ⟨go8, co8, eo8, gb8, gl8, cl8, HG8⟩ := Kd.R_form HO_0.out (by omega)
  obtain ⟨eg_, _, ec_⟩ : g = go8 ∧ l0.length = x0_1.length ∧ c = co8 := by simpa using eo8
  subst eg_
  subst ec_
  have GB8 := bA gb8
  have GG8 := bA HG8
  clear gb8 gl8 HG8
  have HMg := bA (show (P0_ g ∨ w.heap.size ≤ g) from (HO_0.out.1 _ rfl))
  (first | simp only [add_plain] at hx683_0 | skip)
  (first | simp only [add_plain] at hx683_1 | skip)
  (first | simp only [add_plain] at hx684_0 | skip)
  (first | simp only [add_plain] at hx684_1 | skip)
  rw [E3] at hx683_0 hx683_1
  rw [E2] at hx684_0 hx684_1
  have hlt23 := of_decide_eq_true c3b0
  have hap_ : a2_ + 2 ≤ a3_ := by have := of_decide_eq_true c6b0; omega
  have hne1 : ¬ (a2_ = a3_) := by omega
  have hne2 : ¬ (a2_ + 1 = a3_) := by omega
  have hne3 : ¬ (a2_ = a3_ + 1) := by omega
  have pt3 := eq_true (of_decide_eq_true c4b0)
  have qt3 := eq_true (of_decide_eq_true c5b0)
  have pt2 := eq_true (of_decide_eq_true c6b0)
  have qt2 := eq_true (of_decide_eq_true c7b0)
  obtain ⟨ce8, hcl8, hM8, hcc8, hfr8⟩ := Kd.R_elem HO_0.out z41 (x2_1 + 1 : Int) p8 (by first | omega | (rw [Ny685.out, List.length_set]; omega) | exact q8)
  obtain rfl := k41_openM hM8
  have hx8_0 : World.cell? _ ⟨g, (x2_1 + 1 : Int).toNat * 2, none⟩ = some (.int .i64 ((rd_T41 x0_1 (x2_1 + 1)).f0)) := hcc8 0 _ rfl
  rw [E2] at hx8_0
  have hx8_1 : World.cell? _ ⟨g, (x2_1 + 1 : Int).toNat * 2 + 1, none⟩ = some (.int .i64 ((rd_T41 x0_1 (x2_1 + 1)).f1)) := hcc8 1 _ rfl
  rw [E2] at hx8_1
  have hf8_0 : World.frozen? _ ⟨g, (x2_1 + 1 : Int).toNat * 2, none⟩ = false := hfr8 0
  rw [E2] at hf8_0
  have hf8_1 : World.frozen? _ ⟨g, (x2_1 + 1 : Int).toNat * 2 + 1, none⟩ = false := hfr8 1
  rw [E2] at hf8_1
  clear hcl8 hcc8 hfr8 hM8
  obtain ⟨ce11, hcl11, hM11, hcc11, hfr11⟩ := Kd.R_elem HO_0.out z41 (x2_1 + 1 : Int) p8 (by first | omega | (rw [Ny685.out, List.length_set]; omega) | exact q8)
  obtain rfl := k41_openM hM11
  have HP11 := (Kd.R_seg HO_0.out (x2_1 + 1 : Int) p8 (by first | omega | (rw [Ny685.out, List.length_set]; omega) | exact q8) (seg := [.int .i64 ((rd_T41 x0_1 (x3_1 + 1)).f0), .int .i64 ((rd_T41 x0_1 (x3_1 + 1)).f1)]) (j := 0) hcl11 hcc11 (show 2 ≤ 2 from by decide) (x' := (⟨(rd_T41 x0_1 (x3_1 + 1)).f0, (rd_T41 x0_1 (x3_1 + 1)).f1⟩ : S41)) (k41_mkM _ _ _ (⟨(rd_T41 x0_1 (x3_1 + 1)).f0, (rd_T41 x0_1 (x3_1 + 1)).f1⟩ : S41) ) (fun _ hk => hk)).1
  rw [← Ny685.out] at HP11
  rw [show (x2_1 + 1 : Int).toNat * k41.sz = a2_ from E2] at HP11
  have HQ11 := bA HP11
  clear hcl11 hcc11 hfr11 hM11 HP11
  have p9 : 0 ≤ (x3_1 + 1 : Int) := by have := of_decide_eq_true c4b0; omega
  have q9 : (x3_1 + 1 : Int) < (x0_1.length : Int) := by have := of_decide_eq_true c5b0; omega
  obtain ⟨ce9, hcl9, hM9, hcc9, hfr9⟩ := Kd.R_elem HQ11.out z41 (x3_1 + 1 : Int) p9 (by first | omega | (rw [Ny685.out, List.length_set]; omega) | exact q9)
  obtain rfl := k41_openM hM9
  have hx9_0 : World.cell? _ ⟨g, (x3_1 + 1 : Int).toNat * 2, none⟩ = some (.int .i64 ((rd_T41 y685 (x3_1 + 1)).f0)) := hcc9 0 _ rfl
  rw [E3] at hx9_0
  have hx9_1 : World.cell? _ ⟨g, (x3_1 + 1 : Int).toNat * 2 + 1, none⟩ = some (.int .i64 ((rd_T41 y685 (x3_1 + 1)).f1)) := hcc9 1 _ rfl
  rw [E3] at hx9_1
  obtain ⟨ce9b, hcl9b, hM9b, hcc9b, hfr9b⟩ := Kd.R_elem HO_0.out z41 (x3_1 + 1 : Int) p9 (by omega)
  have hf9_0 : World.frozen? _ ⟨g, (x3_1 + 1 : Int).toNat * 2, none⟩ = false := hfr9b 0
  rw [E3] at hf9_0
  have hf9_1 : World.frozen? _ ⟨g, (x3_1 + 1 : Int).toNat * 2 + 1, none⟩ = false := hfr9b 1
  rw [E3] at hf9_1
  clear hcl9 hcc9 hfr9 hM9
  obtain ⟨ce12, hcl12, hM12, hcc12, hfr12⟩ := Kd.R_elem HQ11.out z41 (x3_1 + 1 : Int) p9 (by first | omega | (rw [Ny685.out, List.length_set]; omega) | exact q9)
  obtain rfl := k41_openM hM12
  have HP12 := (Kd.R_seg HQ11.out (x3_1 + 1 : Int) p9 (by first | omega | (rw [Ny685.out, List.length_set]; omega) | exact q9) (seg := [.int .i64 ((rd_T41 x0_1 (x2_1 + 1)).f0), .int .i64 ((rd_T41 x0_1 (x2_1 + 1)).f1)]) (j := 0) hcl12 hcc12 (show 2 ≤ 2 from by decide) (x' := (⟨(rd_T41 x0_1 (x2_1 + 1)).f0, (rd_T41 x0_1 (x2_1 + 1)).f1⟩ : S41)) (k41_mkM _ _ _ (⟨(rd_T41 x0_1 (x2_1 + 1)).f0, (rd_T41 x0_1 (x2_1 + 1)).f1⟩ : S41) ) (fun _ hk => hk)).1
  rw [← Ny686.out] at HP12
  rw [show (x3_1 + 1 : Int).toNat * k41.sz = a3_ from E3] at HP12
  have HQ12 := bA HP12
  clear hcl12 hcc12 hfr12 hM12 HP12
  refine start_ (n := 16) (S := fun w' => w'.cell? ⟨g, a3_, none⟩ = some (.int .i64 ((rd_T41 x0_1 (x3_1 + 1)).f0)) ∧ w'.cell? ⟨g, a3_ + 1, none⟩ = some (.int .i64 ((rd_T41 x0_1 (x3_1 + 1)).f1)) ∧ w'.cell? ⟨g, a2_, none⟩ = some (.int .i64 ((rd_T41 x0_1 (x2_1 + 1)).f0)) ∧ w'.cell? ⟨g, a2_ + 1, none⟩ = some (.int .i64 ((rd_T41 x0_1 (x2_1 + 1)).f1))) (ds := [13, 15]) #[false,false,false,false,false,false,false,false,false,false,false,false,false,false,false,false] (by kernel_rfl) rfl rfl ⟨hx683_0, hx683_1, hx684_0, hx684_1⟩ (fun hHeld => ?_); refine with_tabW rev1_Point.tab3 rev1_Point.bits3 (fun HT_ HW_ => ?_)
  generalize wr.drew = w10 at HO_0 HK HB GG8 HQ11 HQ12 hf8_0 hf8_1 hf9_0 hf9_1 hx683_0 hx683_1 hx684_0 hx684_1 hx8_0 hx8_1 hx9_0 hx9_1 hHeld ⊢
  refine bU (i := 0) (N := some 14) ?_
  refine bU (i := 1) (N := some 15) ?_
  refine bU (i := 2) (N := some 16) ?_
  refine bU (i := 3) (N := some 17) ?_
  refine bU (i := 4) (N := some 18) ?_
  refine bU (i := 5) (N := some 19) ?_
  refine bU (i := 6) (N := some 20) ?_
  refine bU (i := 8) (N := some 22) ?_
  refine bU (i := 9) (N := some 23) ?_
  refine bU (i := 10) (N := some 24) ?_
  refine bW (i := 7) (N := some 21) hHeld ?_
  refine bW (i := 11) (N := some 25) hHeld ?_
  refine bU (i := 12) (N := some 26) ?_
  refine last_ (i := 13) (N := none) #[true,true,true,true,true,true,true,true,true,true,true,true,true,true,false,false] rfl rfl (one_of HT_.out (by kernel_rfl)) (by decide) (fun K hK => ?_)
  refine skip_ (w1 := ?_) (by rfl) rfl ?_ ?_
  rotate_left
  ·go_simp
   rfl
  refine hK.out _ _ ?_
  clear hK K
  refine bU (i := 14) (N := some 27) ?_
  refine last_ (i := 15) (N := none) #[true,true,true,true,true,true,true,true,true,true,true,true,true,true,true,true] rfl rfl (one_of HT_.out (by kernel_rfl)) (by decide) (fun K hK => ?_)
  refine skip_ (w1 := ?_) (by rfl) rfl ?_ ?_
  rotate_left
  ·go_simp
   rfl
  refine hK.out _ _ ?_
  clear hK K
  refine done_ (done_of HT_.out (by kernel_rfl)) ?_
  try go_wp2
  (try simp only [← hl0_1])
  go_roundg k1
  case measure => have := HK1.out; omega
  case rel => exact ⟨(y686), (wrap64 (x2_1 + 1)), (wrap64 (x3_1 - 1)), bs, bs, H', ⟨by have := HK1.out; omega⟩, ⟨by (try simp only [hl0_1]); (with_reducible repeat (first | apply Kd.R_alloc | apply Kd.R_drewN | apply Kd.R_drew)); first | exact HQ12.out | (have h_ := HQ12.out; rw [hl0_1] at h_; exact h_)⟩, ⟨by repeat (first | (with_reducible first | exact HK.out | apply Kept.alloc | apply Kept.drewN | apply Kept.drew | refine Kept.setCell ?_ HMg.out _ | refine Kept.setCell ?_ HMg.out _ | refine Kept.setCell ?_ HMg.out _ | refine Kept.setCell ?_ HMg.out _) | exact HK.out)⟩, ⟨by repeat (first | (with_reducible first | exact HB.out | apply below_alloc | apply pw_below_drewN | apply below_drew1 | refine below_set ?_ GB8.out | refine below_set ?_ GB8.out | refine below_set ?_ GB8.out | refine below_set ?_ GB8.out) | exact HB.out)⟩⟩
def poly_Back.f (k : Nat) (l0 : List (S41)) : Option ((List (S41))) := (slices_Clone_Point.f l0).bind fun t298 => (if (t298.length : Int) > 1 then (rev1_Point.f k (t298.length - 1) t298) else (some t298))
theorem poly_Back.mono : ∀ a0 k, LeO (poly_Back.f k a0) (poly_Back.f (k + 1) a0) := by
 intro a0 k
 unfold poly_Back.f
 exact LeO.bind (LeO.refl _) (fun _ => LeO.ite (rev1_Point.mono _ _ _) (LeO.refl _))
set_option maxHeartbeats 8000000 in
set_option maxRecDepth 100000 in
theorem poly_Back.calls (k : Nat) (A0 : Option Addr) (c0 : Nat) (l0 : List (S41)) (r : List (S41)) (w : World) (hr0 : Kd.C k41 w A0 l0.length l0) (hc0 : l0.length ≤ c0) (h : poly_Back.f k l0 = some r) :
  Calls Try.prog 37 #[.slice A0 l0.length c0] w fun e w' => ∃ v0_ : Value, e = .returned (v0_) ∧ Kd.R k41 41 w' w.heap.size (fun _ => True) v0_ r ∧ Below w.heap.size w w' := by
 have HR0 := bA hr0
 have HC0 := bA hc0
 clear hr0 hc0
 have HB := bA (Below.refl w.heap.size w)
 have H : ((slices_Clone_Point.f l0).bind fun t298 => (if (t298.length : Int) > 1 then (rev1_Point.f k (t298.length - 1) t298) else (some t298))) = some r := h
 clear h
 replace H := Option.bind_eq_some_iff.mp H
 obtain ⟨t298, A20, H⟩ := H
 have A2 := bA A20
 clear A20
 by_cases c3 : (t298.length : Int) > 1
 ·rw [if_pos c3] at H
  have c3b0 : decide (1 < (t298.length : Int)) = true := decide_eq_true c3
  have c3b1 : decide (1 < t298.length) = true := decide_eq_true (by omega)
  clear c3
  have A4 := bA H
  obtain ⟨n_, hn_⟩ : ∃ n_, t298.length = n_ + 1 := ⟨t298.length - 1, by have := of_decide_eq_true c3b1; omega⟩
  have c3b2 : decide (1 < (n_ : Int) + 1) = true := decide_eq_true (by have := of_decide_eq_true c3b1; omega)
  have A4b := bA (show rev1_Point.f k n_ t298 = some r by have h_ := A4.out; rw [show t298.length - 1 = n_ by omega] at h_; exact h_)
  go_enter Try.func37, Try.ntmps37
  go_wp2_with (first | ((first | ((with_reducible refine gate_callee (f := 56) rfl ?_); refine bC (some 5) Try.func56 #[.slice A0 l0.length c0] ?_) | go_at_call 56); (with_reducible refine (slices_Clone_Point.calls _ _ l0 t298 _ ?side1 ?side2 A2.out).mono ?_); (case side1 => repeat (first | exact HR0.out | (with_reducible refine Kd.C_alloc ?_ _) | (with_reducible refine Kd.C_drewN ?_ _) | (with_reducible refine Kd.C_drew ?_))); (case side2 => exact HC0.out); rintro e w5 ⟨v299, rfl, ho0, hb⟩; (first | refine ⟨_, rfl, ?_⟩ | skip); have HO300 := bA (Kd.R_lower ho0 bY); replace HB := bA (bS hb); (try clear hb); (try clear ho0); obtain ⟨go8, co6, eo8, gb8, gl8, cl8, HG8⟩ := Kd.R_form HO300.out (by omega); subst eo8; have hle_ := (Kd.R_reads' HO300.out).2.1; have hs1_ : (t298.length : Int) = (n_ : Int) + 1 := (by omega); have hn1_ : 1 < t298.length := of_decide_eq_true c3b1; have hcp1 : ¬ (co6 = 1) := (by omega); have hcp2 : ¬ (co6 - 1 = 0) := (by omega); have hcp3 : ¬ (co6 ≤ 1) := (by omega); have hcp4 : 1 < co6 := (by omega); clear hn1_) | ((first | ((with_reducible refine gate_callee (f := 84) rfl ?_); refine bC (some 11) Try.func84 #[.slice (some ⟨go8, 2, none⟩) n_ (co6 - 1)] ?_) | go_at_call 84); have hA_ := rev1_Point.calls k n_ co6 go8 (fun k_ => some k_ = (.slice (some ⟨go8, 0, none⟩) t298.length co6 : Value).ownBlock) t298 r w _ hn_ HB.out (Kd.R_tight rfl HO300.out) A4b.out; (with_reducible refine hA_.mono ?_); clear hA_; rintro e w7 ⟨rfl, hy0, hb, hkp⟩; (first | refine ⟨_, rfl, ?_⟩ | skip); replace HO300 := bA (Kd.R_reok rfl hy0 (fun k_ e_ => HO300.out.1 k_ e_)); replace HB := bA (hb); (try clear hb); (try clear hkp); (try clear hy0)))
  go_ret
  exact ⟨_, by first | rfl | (simp [errW_none, errW_some] <;> rfl) | (simp [*, errW_none, errW_some] <;> rfl), by (with_reducible repeat (first | apply Kd.R_alloc | apply Kd.R_drewN | apply Kd.R_drew)); (have h_ := HO300.out; rw [hn_] at h_; exact h_), by repeat (first | (with_reducible first | exact HB.out | apply below_alloc | apply pw_below_drewN | apply below_drew1) | exact HB.out)⟩
 rw [if_neg c3] at H
 have c3b0 : decide (1 < (t298.length : Int)) = false := decide_eq_false c3
 have c3b1 : decide (1 < t298.length) = false := decide_eq_false (by omega)
 clear c3
 obtain rfl := Option.some.inj H
 go_enter Try.func37, Try.ntmps37
 go_wp2_with (first | ((first | ((with_reducible refine gate_callee (f := 56) rfl ?_); refine bC (some 5) Try.func56 #[.slice A0 l0.length c0] ?_) | go_at_call 56); (with_reducible refine (slices_Clone_Point.calls _ _ l0 t298 _ ?side1 ?side2 A2.out).mono ?_); (case side1 => repeat (first | exact HR0.out | (with_reducible refine Kd.C_alloc ?_ _) | (with_reducible refine Kd.C_drewN ?_ _) | (with_reducible refine Kd.C_drew ?_))); (case side2 => exact HC0.out); rintro e w8 ⟨v299, rfl, ho0, hb⟩; (first | refine ⟨_, rfl, ?_⟩ | skip); have HO300 := bA (Kd.R_lower ho0 bY); replace HB := bA (bS hb); (try clear hb); (try clear ho0); obtain ⟨Ao9, co9, eo9⟩ := Kd.R_slice HO300.out; subst eo9))
 go_ret
 exact ⟨_, by first | rfl | (simp [errW_none, errW_some] <;> rfl) | (simp [*, errW_none, errW_some] <;> rfl), bRr HO300, by repeat (first | (with_reducible first | exact HB.out | apply below_alloc | apply pw_below_drewN | apply below_drew1) | exact HB.out)⟩


/-! ### apogeelaw11_awake: function 25 -/
def apogeelaw11_awake.f (k : Nat)  : Option (Bool) := (apogeelaw11_square.f).bind fun t294 => ((poly_Bounds.f k t294).bind fun bt297 => ((apogeelaw11_square.f).bind fun t303 => ((poly_Move.f k t303 1 1).bind fun bt306 => ((some (([(⟨0, 0⟩ : S41), (⟨4, 4⟩ : S41), (⟨4, 0⟩ : S41), (⟨0, 4⟩ : S41)] : List (S41)) : List (S41))).bind fun y310 => ((apogeelaw11_square.f).bind fun t313 => ((poly_Right.f k t313).bind fun t316 => (if t316 = true then ((apogeelaw11_square.f).bind fun t317 => ((poly_Simple.f k t317).bind fun t320 => (if t320 = true then ((poly_Simple.f k y310).bind fun t321 => (if t321 = true then (none) else ((apogeelaw11_square.f).bind fun t322 => ((poly_Side.f k t322 2 2).bind fun t325 => (if t325 = 1 then ((apogeelaw11_square.f).bind fun t326 => ((poly_Side.f k t326 4 1).bind fun t329 => (if t329 = 0 then ((apogeelaw11_square.f).bind fun t330 => ((poly_Side.f k t330 5 1).bind fun t333 => (if t333 = (-1) then ((apogeelaw11_square.f).bind fun t334 => ((poly_Left.f k t334).bind fun t337 => (if t337 = true then ((apogeelaw11_square.f).bind fun t338 => ((poly_Back.f k t338).bind fun t341 => ((poly_Left.f k t341).bind fun t344 => (if t344 = true then (none) else (if ((bt297.1 == 0 && (bt297.2.1 == 0)) && ((bt297.2.2.1 == 4 && (bt297.2.2.2.1 == 4)))) = true then (if bt297.2.2.2.2 = true then (if (bt306.1.length : Int) = 4 then (if 0 < (bt306.1.length : Int) then (if (((rd_T41 bt306.1 0).f0) == 1 && (((rd_T41 bt306.1 0).f1) == 1)) = true then (if bt306.2 = true then ((poly_Side.f k y310 1 2).bind fun t346 => (some (t346 == (-1)))) else (none)) else (none)) else (none)) else (none)) else (none)) else (none)))))) else (none)))) else (none)))) else (none)))) else (none)))))) else (none)))) else (none))))))))
theorem apogeelaw11_awake.mono : ∀ k, LeO (apogeelaw11_awake.f k ) (apogeelaw11_awake.f (k + 1) ) := by
 intro  k
 unfold apogeelaw11_awake.f
 repeat' first
   | (with_reducible exact poly_Back.mono _ _)
   | (with_reducible exact poly_Bounds.mono _ _)
   | (with_reducible exact poly_Left.mono _ _)
   | (with_reducible exact poly_Move.mono _ _ _ _)
   | (with_reducible exact poly_Right.mono _ _)
   | (with_reducible exact poly_Side.mono _ _ _ _)
   | (with_reducible exact poly_Simple.mono _ _)
   | (with_reducible exact LeO.refl _)
   | (with_reducible exact LeO.none _)
   | (with_reducible refine LeO.ite ?_ ?_)
   | (with_reducible refine LeO.bind ?_ (fun _ => ?_))
   | exact poly_Back.mono _ _
   | exact poly_Bounds.mono _ _
   | exact poly_Left.mono _ _
   | exact poly_Move.mono _ _ _ _
   | exact poly_Right.mono _ _
   | exact poly_Side.mono _ _ _ _
   | exact poly_Simple.mono _ _
   | exact LeO.none _
   | refine LeO.ite ?_ ?_
   | refine LeO.bind ?_ (fun _ => ?_)
set_option maxHeartbeats 8000000 in
set_option maxRecDepth 100000 in
theorem apogeelaw11_awake.calls (k : Nat)  (r : Bool) (w : World) (h : apogeelaw11_awake.f k  = some r) :
  Calls Try.prog 25 #[] w fun e w' => e = .returned (.bool r) ∧ Below w.heap.size w w' := by
 have hu44 := Try.underlying44
 have hu41 := Try.underlying41
 have HB := bA (Below.refl w.heap.size w)
 have H : ((apogeelaw11_square.f).bind fun t294 => ((poly_Bounds.f k t294).bind fun bt297 => ((apogeelaw11_square.f).bind fun t303 => ((poly_Move.f k t303 1 1).bind fun bt306 => ((some (([(⟨0, 0⟩ : S41), (⟨4, 4⟩ : S41), (⟨4, 0⟩ : S41), (⟨0, 4⟩ : S41)] : List (S41)) : List (S41))).bind fun y310 => ((apogeelaw11_square.f).bind fun t313 => ((poly_Right.f k t313).bind fun t316 => (if t316 = true then ((apogeelaw11_square.f).bind fun t317 => ((poly_Simple.f k t317).bind fun t320 => (if t320 = true then ((poly_Simple.f k y310).bind fun t321 => (if t321 = true then (none) else ((apogeelaw11_square.f).bind fun t322 => ((poly_Side.f k t322 2 2).bind fun t325 => (if t325 = 1 then ((apogeelaw11_square.f).bind fun t326 => ((poly_Side.f k t326 4 1).bind fun t329 => (if t329 = 0 then ((apogeelaw11_square.f).bind fun t330 => ((poly_Side.f k t330 5 1).bind fun t333 => (if t333 = (-1) then ((apogeelaw11_square.f).bind fun t334 => ((poly_Left.f k t334).bind fun t337 => (if t337 = true then ((apogeelaw11_square.f).bind fun t338 => ((poly_Back.f k t338).bind fun t341 => ((poly_Left.f k t341).bind fun t344 => (if t344 = true then (none) else (if ((bt297.1 == 0 && (bt297.2.1 == 0)) && ((bt297.2.2.1 == 4 && (bt297.2.2.2.1 == 4)))) = true then (if bt297.2.2.2.2 = true then (if (bt306.1.length : Int) = 4 then (if 0 < (bt306.1.length : Int) then (if (((rd_T41 bt306.1 0).f0) == 1 && (((rd_T41 bt306.1 0).f1) == 1)) = true then (if bt306.2 = true then ((poly_Side.f k y310 1 2).bind fun t346 => (some (t346 == (-1)))) else (none)) else (none)) else (none)) else (none)) else (none)) else (none)))))) else (none)))) else (none)))) else (none)))) else (none)))))) else (none)))) else (none))))))))) = some r := h
 clear h
 replace H := Option.bind_eq_some_iff.mp H
 obtain ⟨t294, A10, H⟩ := H
 have A1 := bA A10
 clear A10
 replace H := Option.bind_eq_some_iff.mp H
 obtain ⟨⟨t297, t298, t299, t300, t301⟩, A20, H⟩ := H
 replace H : ((apogeelaw11_square.f).bind fun t303 => ((poly_Move.f k t303 1 1).bind fun bt306 => ((some (([(⟨0, 0⟩ : S41), (⟨4, 4⟩ : S41), (⟨4, 0⟩ : S41), (⟨0, 4⟩ : S41)] : List (S41)) : List (S41))).bind fun y310 => ((apogeelaw11_square.f).bind fun t313 => ((poly_Right.f k t313).bind fun t316 => (if t316 = true then ((apogeelaw11_square.f).bind fun t317 => ((poly_Simple.f k t317).bind fun t320 => (if t320 = true then ((poly_Simple.f k y310).bind fun t321 => (if t321 = true then (none) else ((apogeelaw11_square.f).bind fun t322 => ((poly_Side.f k t322 2 2).bind fun t325 => (if t325 = 1 then ((apogeelaw11_square.f).bind fun t326 => ((poly_Side.f k t326 4 1).bind fun t329 => (if t329 = 0 then ((apogeelaw11_square.f).bind fun t330 => ((poly_Side.f k t330 5 1).bind fun t333 => (if t333 = (-1) then ((apogeelaw11_square.f).bind fun t334 => ((poly_Left.f k t334).bind fun t337 => (if t337 = true then ((apogeelaw11_square.f).bind fun t338 => ((poly_Back.f k t338).bind fun t341 => ((poly_Left.f k t341).bind fun t344 => (if t344 = true then (none) else (if ((t297 == 0 && (t298 == 0)) && ((t299 == 4 && (t300 == 4)))) = true then (if t301 = true then (if (bt306.1.length : Int) = 4 then (if 0 < (bt306.1.length : Int) then (if (((rd_T41 bt306.1 0).f0) == 1 && (((rd_T41 bt306.1 0).f1) == 1)) = true then (if bt306.2 = true then ((poly_Side.f k y310 1 2).bind fun t346 => (some (t346 == (-1)))) else (none)) else (none)) else (none)) else (none)) else (none)) else (none)))))) else (none)))) else (none)))) else (none)))) else (none)))))) else (none)))) else (none))))))) = some r := H
 have A2 := bA A20
 clear A20
 replace H := Option.bind_eq_some_iff.mp H
 obtain ⟨t303, A30, H⟩ := H
 have A3 := bA A30
 clear A30
 replace H := Option.bind_eq_some_iff.mp H
 obtain ⟨⟨t306, t307⟩, A40, H⟩ := H
 replace H : ((some (([(⟨0, 0⟩ : S41), (⟨4, 4⟩ : S41), (⟨4, 0⟩ : S41), (⟨0, 4⟩ : S41)] : List (S41)) : List (S41))).bind fun y310 => ((apogeelaw11_square.f).bind fun t313 => ((poly_Right.f k t313).bind fun t316 => (if t316 = true then ((apogeelaw11_square.f).bind fun t317 => ((poly_Simple.f k t317).bind fun t320 => (if t320 = true then ((poly_Simple.f k y310).bind fun t321 => (if t321 = true then (none) else ((apogeelaw11_square.f).bind fun t322 => ((poly_Side.f k t322 2 2).bind fun t325 => (if t325 = 1 then ((apogeelaw11_square.f).bind fun t326 => ((poly_Side.f k t326 4 1).bind fun t329 => (if t329 = 0 then ((apogeelaw11_square.f).bind fun t330 => ((poly_Side.f k t330 5 1).bind fun t333 => (if t333 = (-1) then ((apogeelaw11_square.f).bind fun t334 => ((poly_Left.f k t334).bind fun t337 => (if t337 = true then ((apogeelaw11_square.f).bind fun t338 => ((poly_Back.f k t338).bind fun t341 => ((poly_Left.f k t341).bind fun t344 => (if t344 = true then (none) else (if ((t297 == 0 && (t298 == 0)) && ((t299 == 4 && (t300 == 4)))) = true then (if t301 = true then (if (t306.length : Int) = 4 then (if 0 < (t306.length : Int) then (if (((rd_T41 t306 0).f0) == 1 && (((rd_T41 t306 0).f1) == 1)) = true then (if t307 = true then ((poly_Side.f k y310 1 2).bind fun t346 => (some (t346 == (-1)))) else (none)) else (none)) else (none)) else (none)) else (none)) else (none)))))) else (none)))) else (none)))) else (none)))) else (none)))))) else (none)))) else (none))))) = some r := H
 have A4 := bA A40
 clear A40
 obtain ⟨y310, hy310⟩ : ∃ y_ : List (S41), y_ = (([(⟨0, 0⟩ : S41), (⟨4, 4⟩ : S41), (⟨4, 0⟩ : S41), (⟨0, 4⟩ : S41)] : List (S41))) := ⟨_, rfl⟩
 replace H : ((apogeelaw11_square.f).bind fun t313 => ((poly_Right.f k t313).bind fun t316 => (if t316 = true then ((apogeelaw11_square.f).bind fun t317 => ((poly_Simple.f k t317).bind fun t320 => (if t320 = true then ((poly_Simple.f k y310).bind fun t321 => (if t321 = true then (none) else ((apogeelaw11_square.f).bind fun t322 => ((poly_Side.f k t322 2 2).bind fun t325 => (if t325 = 1 then ((apogeelaw11_square.f).bind fun t326 => ((poly_Side.f k t326 4 1).bind fun t329 => (if t329 = 0 then ((apogeelaw11_square.f).bind fun t330 => ((poly_Side.f k t330 5 1).bind fun t333 => (if t333 = (-1) then ((apogeelaw11_square.f).bind fun t334 => ((poly_Left.f k t334).bind fun t337 => (if t337 = true then ((apogeelaw11_square.f).bind fun t338 => ((poly_Back.f k t338).bind fun t341 => ((poly_Left.f k t341).bind fun t344 => (if t344 = true then (none) else (if ((t297 == 0 && (t298 == 0)) && ((t299 == 4 && (t300 == 4)))) = true then (if t301 = true then (if (t306.length : Int) = 4 then (if 0 < (t306.length : Int) then (if (((rd_T41 t306 0).f0) == 1 && (((rd_T41 t306 0).f1) == 1)) = true then (if t307 = true then ((poly_Side.f k y310 1 2).bind fun t346 => (some (t346 == (-1)))) else (none)) else (none)) else (none)) else (none)) else (none)) else (none)))))) else (none)))) else (none)))) else (none)))) else (none)))))) else (none)))) else (none)))) = some r := by first | (rw [hy310]; with_reducible exact H) | (have H2_ := (Option.bind_some _ _).symm.trans H; rw [hy310]; with_reducible exact H2_) | (have H2_ := (Option.bind_some _ _).symm.trans H; with_reducible exact H2_) | with_reducible exact H | (rw [hy310]; exact H) | exact H
 have Ny310 := bA hy310
 clear hy310
 replace H := Option.bind_eq_some_iff.mp H
 obtain ⟨t313, A50, H⟩ := H
 have A5 := bA A50
 clear A50
 replace H := Option.bind_eq_some_iff.mp H
 obtain ⟨t316, A60, H⟩ := H
 have A6 := bA A60
 clear A60
 by_cases c7 : t316 = true
 rotate_left
 ·replace c7 := Bool.eq_false_iff.mpr c7
  subst c7
  rw [if_neg bn] at H
  exact absurd H (by simp)
 subst c7
 rw [if_pos rfl] at H
 replace H := Option.bind_eq_some_iff.mp H
 obtain ⟨t317, A80, H⟩ := H
 have A8 := bA A80
 clear A80
 replace H := Option.bind_eq_some_iff.mp H
 obtain ⟨t320, A90, H⟩ := H
 have A9 := bA A90
 clear A90
 by_cases c10 : t320 = true
 rotate_left
 ·replace c10 := Bool.eq_false_iff.mpr c10
  subst c10
  rw [if_neg bn] at H
  exact absurd H (by simp)
 subst c10
 rw [if_pos rfl] at H
 replace H := Option.bind_eq_some_iff.mp H
 obtain ⟨t321, A110, H⟩ := H
 have A11 := bA A110
 clear A110
 by_cases c12 : t321 = true
 ·subst c12
  rw [if_pos rfl] at H
  exact absurd H (by simp)
 replace c12 := Bool.eq_false_iff.mpr c12
 subst c12
 rw [if_neg bn] at H
 replace H := Option.bind_eq_some_iff.mp H
 obtain ⟨t322, A130, H⟩ := H
 have A13 := bA A130
 clear A130
 replace H := Option.bind_eq_some_iff.mp H
 obtain ⟨t325, A140, H⟩ := H
 have A14 := bA A140
 clear A140
 by_cases c15 : t325 = 1
 rotate_left
 ·rw [if_neg c15] at H
  exact absurd H (by simp)
 rw [if_pos c15] at H
 have c15b0 : (t325 == 1) = true := beq_iff_eq.mpr c15
 have c15b1 : (t325 != 1) = false := bne_eq_false_iff_eq.mpr c15
 clear c15
 replace H := Option.bind_eq_some_iff.mp H
 obtain ⟨t326, A160, H⟩ := H
 have A16 := bA A160
 clear A160
 replace H := Option.bind_eq_some_iff.mp H
 obtain ⟨t329, A170, H⟩ := H
 have A17 := bA A170
 clear A170
 by_cases c18 : t329 = 0
 rotate_left
 ·rw [if_neg c18] at H
  exact absurd H (by simp)
 rw [if_pos c18] at H
 have c18b0 : (t329 == 0) = true := beq_iff_eq.mpr c18
 have c18b1 : (t329 != 0) = false := bne_eq_false_iff_eq.mpr c18
 clear c18
 replace H := Option.bind_eq_some_iff.mp H
 obtain ⟨t330, A190, H⟩ := H
 have A19 := bA A190
 clear A190
 replace H := Option.bind_eq_some_iff.mp H
 obtain ⟨t333, A200, H⟩ := H
 have A20 := bA A200
 clear A200
 by_cases c21 : t333 = (-1)
 rotate_left
 ·rw [if_neg c21] at H
  exact absurd H (by simp)
 rw [if_pos c21] at H
 have c21b0 : (t333 == (-1)) = true := beq_iff_eq.mpr c21
 have c21b1 : (t333 != (-1)) = false := bne_eq_false_iff_eq.mpr c21
 clear c21
 replace H := Option.bind_eq_some_iff.mp H
 obtain ⟨t334, A220, H⟩ := H
 have A22 := bA A220
 clear A220
 replace H := Option.bind_eq_some_iff.mp H
 obtain ⟨t337, A230, H⟩ := H
 have A23 := bA A230
 clear A230
 by_cases c24 : t337 = true
 rotate_left
 ·replace c24 := Bool.eq_false_iff.mpr c24
  subst c24
  rw [if_neg bn] at H
  exact absurd H (by simp)
 subst c24
 rw [if_pos rfl] at H
 replace H := Option.bind_eq_some_iff.mp H
 obtain ⟨t338, A250, H⟩ := H
 have A25 := bA A250
 clear A250
 replace H := Option.bind_eq_some_iff.mp H
 obtain ⟨t341, A260, H⟩ := H
 have A26 := bA A260
 clear A260
 replace H := Option.bind_eq_some_iff.mp H
 obtain ⟨t344, A270, H⟩ := H
 have A27 := bA A270
 clear A270
 by_cases c28 : t344 = true
 ·subst c28
  rw [if_pos rfl] at H
  exact absurd H (by simp)
 replace c28 := Bool.eq_false_iff.mpr c28
 subst c28
 rw [if_neg bn] at H
 by_cases c29 : ((t297 == 0 && (t298 == 0)) && ((t299 == 4 && (t300 == 4)))) = true
 rotate_left
 ·rw [if_neg c29] at H
  exact absurd H (by simp)
 rw [if_pos c29] at H
 have c29b0 : ((t297 == 0 && (t298 == 0)) && ((t299 == 4 && (t300 == 4)))) = true := c29
 clear c29
 by_cases c30 : t301 = true
 rotate_left
 ·replace c30 := Bool.eq_false_iff.mpr c30
  subst c30
  rw [if_neg bn] at H
  exact absurd H (by simp)
 subst c30
 rw [if_pos rfl] at H
 by_cases c31 : (t306.length : Int) = 4
 rotate_left
 ·rw [if_neg c31] at H
  exact absurd H (by simp)
 rw [if_pos c31] at H
 have c31b0 : ((t306.length : Int) == 4) = true := beq_iff_eq.mpr c31
 have c31b1 : ((t306.length : Int) != 4) = false := bne_eq_false_iff_eq.mpr c31
 clear c31
 by_cases c32 : 0 < (t306.length : Int)
 rotate_left
 ·rw [if_neg c32] at H
  exact absurd H (by simp)
 rw [if_pos c32] at H
 have c32b0 : decide (0 < (t306.length : Int)) = true := decide_eq_true c32
 have c32b1 : decide (0 < t306.length) = true := decide_eq_true (by omega)
 clear c32
 by_cases c33 : (((rd_T41 t306 0).f0) == 1 && (((rd_T41 t306 0).f1) == 1)) = true
 rotate_left
 ·rw [if_neg c33] at H
  exact absurd H (by simp)
 rw [if_pos c33] at H
 have c33b0 : (((rd_T41 t306 0).f0) == 1 && (((rd_T41 t306 0).f1) == 1)) = true := c33
 (try (have c33b1 : decide (((rd_T41 t306 0).f0) = 1 && (((rd_T41 t306 0).f1) == 1)) = true := by simpa using c33))
 (try (have c33b2 : (((rd_T41 t306 0).f0) == 1 && (((rd_T41 t306 0).f1) == 1)) = true := by simpa using c33))
 clear c33
 by_cases c34 : t307 = true
 rotate_left
 ·replace c34 := Bool.eq_false_iff.mpr c34
  subst c34
  rw [if_neg bn] at H
  exact absurd H (by simp)
 subst c34
 rw [if_pos rfl] at H
 replace H := Option.bind_eq_some_iff.mp H
 obtain ⟨t346, A350, H⟩ := H
 have A35 := bA A350
 clear A350
 obtain rfl := Option.some.inj H
 go_enter Try.func25, Try.ntmps25
 go_wp2_with (first | ((first | ((with_reducible refine gate_callee (f := 63) rfl ?_); refine bC (some 7) Try.func63 #[] ?_) | ((fail_if_success (have h_ := HO296)); go_at_call 63)); (with_reducible refine (apogeelaw11_square.calls  t294 _ A1.out).mono ?_); rintro e w36 ⟨v295, rfl, ho0, hb⟩; (first | refine ⟨_, rfl, ?_⟩ | skip); have HO296 := bA (Kd.R_lower ho0 bY); replace HB := bA (bS hb); (try clear hb); (try clear ho0); obtain ⟨Ao37, co37, eo37⟩ := Kd.R_slice HO296.out; subst eo37) | ((first | ((with_reducible refine gate_callee (f := 27) rfl ?_); refine bC (some 8) Try.func27 #[.slice Ao37 t294.length co37] ?_) | go_at_call 27); (with_reducible refine (poly_Bounds.calls k _ _ t294 t297 t298 t299 t300 true _ ?side1 ?side2 A2.out).mono ?_); (case side1 => repeat (first | exact (Kd.R_reads' HO296.out).2.2 | (with_reducible refine Kd.C_alloc ?_ _) | (with_reducible refine Kd.C_drewN ?_ _) | (with_reducible refine Kd.C_drew ?_))); (case side2 => exact (Kd.R_reads' HO296.out).2.1); rintro e w38 ⟨rfl, hb⟩; (first | refine ⟨_, rfl, ?_⟩ | skip); replace HO296 := bA (Kd.R_below (bRr HO296) hb); replace HB := bA (bS hb); (try clear hb)) | ((with_reducible refine gate_dst (N := 1) rfl ?_); (try (refine gate_guard (by rfl) ?_; dsimp only)); refine bE (N := 1) (cs := #[.int .i64 0, .int .i64 0, .int .i64 0, .int .i64 0]) (t := 44) ?_; intro gb302 hg w39 hbox hb; have BK302 := bA (hbox); have GW302 := bA (bZ hg); have GE302 := bA (bZ hg); replace HO296 := bA (Kd.R_below (bRr HO296) hb); replace HB := bA (bS hb); clear hb hbox hg; obtain ⟨hcz40_0, hcz40_1, hcz40_2, hcz40_3, hfz40_0, hfz40_1, hfz40_2, hfz40_3⟩ := bc4 BK302) | ((first | ((with_reducible refine gate_callee (f := 63) rfl ?_); refine bC (some 12) Try.func63 #[] ?_) | ((fail_if_success (have h_ := HO305)); go_at_call 63)); (with_reducible refine (apogeelaw11_square.calls  t303 _ A3.out).mono ?_); rintro e w41 ⟨v304, rfl, ho0, hb⟩; (first | refine ⟨_, rfl, ?_⟩ | skip); have HO305 := bA (Kd.R_lower (Kd.R_new' ho0 (Kd.R_lt (by (with_reducible repeat (first | apply Kd.R_alloc | apply Kd.R_drewN | apply Kd.R_drew)); exact (Kd.R_mono (Kd.R_far (p := ⟨gb302, 3, none⟩) (Kd.R_far (p := ⟨gb302, 2, none⟩) (Kd.R_far (p := ⟨gb302, 1, none⟩) (Kd.R_far (p := ⟨gb302, 0, none⟩) (Kd.R_types HO296.out BK302.out (by decide)) (fun _ hk => hk.2) (.int .i64 t297)) (fun _ hk => hk.2) (.int .i64 t298)) (fun _ hk => hk.2) (.int .i64 t299)) (fun _ hk => hk.2) (.int .i64 t300)) (fun _ h_ => h_.1))))) bY); replace HO296 := bA (Kd.R_elder' (by (with_reducible repeat (first | apply Kd.R_alloc | apply Kd.R_drewN | apply Kd.R_drew)); exact (Kd.R_mono (Kd.R_far (p := ⟨gb302, 3, none⟩) (Kd.R_far (p := ⟨gb302, 2, none⟩) (Kd.R_far (p := ⟨gb302, 1, none⟩) (Kd.R_far (p := ⟨gb302, 0, none⟩) (Kd.R_types HO296.out BK302.out (by decide)) (fun _ hk => hk.2) (.int .i64 t297)) (fun _ hk => hk.2) (.int .i64 t298)) (fun _ hk => hk.2) (.int .i64 t299)) (fun _ hk => hk.2) (.int .i64 t300)) (fun _ h_ => h_.1))) (Kd.R_base ho0) hb); replace BK302 := bA (blk_below (g := gb302) (o := .cells #[.int .i64 t297, .int .i64 t298, .int .i64 t299, .int .i64 t300] 44 (0, 0)) (by (with_reducible repeat (first | refine blk_drewN ?_ _ | refine blk_drew ?_ | refine blk_alloc ?_ _)); refine blk_put (cs := #[.int .i64 t297, .int .i64 t298, .int .i64 t299, .int .i64 0]) ?_ 3 _ rfl; (with_reducible repeat (first | refine blk_drewN ?_ _ | refine blk_drew ?_ | refine blk_alloc ?_ _)); refine blk_put (cs := #[.int .i64 t297, .int .i64 t298, .int .i64 0, .int .i64 0]) ?_ 2 _ rfl; (with_reducible repeat (first | refine blk_drewN ?_ _ | refine blk_drew ?_ | refine blk_alloc ?_ _)); refine blk_put (cs := #[.int .i64 t297, .int .i64 0, .int .i64 0, .int .i64 0]) ?_ 1 _ rfl; (with_reducible repeat (first | refine blk_drewN ?_ _ | refine blk_drew ?_ | refine blk_alloc ?_ _)); refine blk_put (cs := #[.int .i64 0, .int .i64 0, .int .i64 0, .int .i64 0]) ?_ 0 _ rfl; (with_reducible repeat (first | refine blk_drewN ?_ _ | refine blk_drew ?_ | refine blk_alloc ?_ _)); exact BK302.out) hb); replace HB := bA (bS hb); (try clear hb); (try clear ho0); obtain ⟨Ao42, co42, eo42⟩ := Kd.R_slice HO305.out; subst eo42) | ((first | ((with_reducible refine gate_callee (f := 64) rfl ?_); refine bC (some 13) Try.func64 #[.slice Ao42 t303.length co42, .int .i64 1, .int .i64 1] ?_) | go_at_call 64); (with_reducible refine (poly_Move.calls k _ _ t303 1 1 t306 true _ ?side1 ?side2 A4.out).mono ?_); (case side1 => repeat (first | exact (Kd.R_reads' HO305.out).2.2 | (with_reducible refine Kd.C_alloc ?_ _) | (with_reducible refine Kd.C_drewN ?_ _) | (with_reducible refine Kd.C_drew ?_))); (case side2 => exact (Kd.R_reads' HO305.out).2.1); rintro e w43 ⟨v308, rfl, ho0, hb⟩; (first | refine ⟨_, rfl, ?_⟩ | skip); have HO309 := bA (Kd.R_lower (Kd.R_new' (Kd.R_new' ho0 (Kd.R_lt (bRr HO296))) (Kd.R_lt (bRr HO305))) bY); replace HO296 := bA (Kd.R_elder' (bRr HO296) (Kd.R_base ho0) hb); replace HO305 := bA (Kd.R_elder' (bRr HO305) (Kd.R_base ho0) hb); replace BK302 := bA (bB BK302 hb); replace HB := bA (bS hb); (try clear hb); (try clear ho0)) | ((with_reducible refine gate_dst (N := 20) rfl ?_); (try (refine gate_guard (by rfl) ?_; dsimp only)); refine Kd.R_lit k41 _ 41 ?hg (N := 20) ?hd (xs := ([(⟨0, 0⟩ : S41), (⟨4, 4⟩ : S41), (⟨4, 0⟩ : S41), (⟨0, 4⟩ : S41)] : List (S41))) (inner := [.int .i64 0, .int .i64 0, .int .i64 4, .int .i64 4, .int .i64 4, .int .i64 0, .int .i64 0, .int .i64 4]) (ok := fun _ => True) (okp := fun _ => True) ?hr ?hp (fun _ hk => hk) trivial (Below.refl _ _) (Nat.le_refl _) (by simp) ?_; (case hd => rfl); (case hg => rfl); (case hr => first | (go_simp; done) | (go_simp; rfl)); (case hp => exact (Reps.c2 (show Kd.M k41 _ _ _ (⟨0, 0⟩ : S41) [.int .i64 0, .int .i64 0] from (k41_mkM _ _ _ (⟨0, 0⟩ : S41) )) (Reps.c2 (show Kd.M k41 _ _ _ (⟨4, 4⟩ : S41) [.int .i64 4, .int .i64 4] from (k41_mkM _ _ _ (⟨4, 4⟩ : S41) )) (Reps.c2 (show Kd.M k41 _ _ _ (⟨4, 0⟩ : S41) [.int .i64 4, .int .i64 0] from (k41_mkM _ _ _ (⟨4, 0⟩ : S41) )) (Reps.c2 (show Kd.M k41 _ _ _ (⟨0, 4⟩ : S41) [.int .i64 0, .int .i64 4] from (k41_mkM _ _ _ (⟨0, 4⟩ : S41) )) (Reps.none _ _)))))); intro v311 w44 ho45 hb hg_ hnew_; clear hg_ hnew_; (first | rw [← Ny310.out] at ho45 | (simp only [Int.reduceToNat] at ho45; rw [← Ny310.out] at ho45)); have HO312 := bA (Kd.R_lower (Kd.R_new' (Kd.R_new' (Kd.R_new' ho45 (Kd.R_lt (bRr HO296))) (Kd.R_lt (bRr HO305))) (Kd.R_lt (bRr HO309))) bY); replace HO296 := bA (Kd.R_elder' (bRr HO296) (Kd.R_base ho45) hb); replace HO305 := bA (Kd.R_elder' (bRr HO305) (Kd.R_base ho45) hb); replace HO309 := bA (Kd.R_elder' (bRr HO309) (Kd.R_base ho45) hb); replace BK302 := bA (bB BK302 hb); replace HB := bA (bS hb); clear hb ho45) | ((first | ((with_reducible refine gate_callee (f := 63) rfl ?_); refine bC (some 21) Try.func63 #[] ?_) | ((fail_if_success (have h_ := HO315)); go_at_call 63)); (with_reducible refine (apogeelaw11_square.calls  t313 _ A5.out).mono ?_); rintro e w46 ⟨v314, rfl, ho0, hb⟩; (first | refine ⟨_, rfl, ?_⟩ | skip); have HO315 := bA (Kd.R_lower (Kd.R_new' (Kd.R_new' (Kd.R_new' (Kd.R_new' ho0 (Kd.R_lt (bRr HO296))) (Kd.R_lt (bRr HO305))) (Kd.R_lt (bRr HO309))) (Kd.R_lt (bRr HO312))) bY); replace HO296 := bA (Kd.R_elder' (bRr HO296) (Kd.R_base ho0) hb); replace HO305 := bA (Kd.R_elder' (bRr HO305) (Kd.R_base ho0) hb); replace HO309 := bA (Kd.R_elder' (bRr HO309) (Kd.R_base ho0) hb); replace HO312 := bA (Kd.R_elder' (bRr HO312) (Kd.R_base ho0) hb); replace BK302 := bA (bB BK302 hb); replace HB := bA (bS hb); (try clear hb); (try clear ho0); obtain ⟨Ao47, co47, eo47⟩ := Kd.R_slice HO315.out; subst eo47) | ((first | ((with_reducible refine gate_callee (f := 31) rfl ?_); refine bC (some 22) Try.func31 #[.slice Ao47 t313.length co47] ?_) | go_at_call 31); (with_reducible refine (poly_Right.calls k _ _ t313 true _ ?side1 ?side2 A6.out).mono ?_); (case side1 => repeat (first | exact (Kd.R_reads' HO315.out).2.2 | (with_reducible refine Kd.C_alloc ?_ _) | (with_reducible refine Kd.C_drewN ?_ _) | (with_reducible refine Kd.C_drew ?_))); (case side2 => exact (Kd.R_reads' HO315.out).2.1); rintro e w48 ⟨rfl, hb⟩; (first | refine ⟨_, rfl, ?_⟩ | skip); replace HO296 := bA (Kd.R_below (bRr HO296) hb); replace HO305 := bA (Kd.R_below (bRr HO305) hb); replace HO309 := bA (Kd.R_below (bRr HO309) hb); replace HO312 := bA (Kd.R_below (bRr HO312) hb); replace HO315 := bA (Kd.R_below (bRr HO315) hb); replace BK302 := bA (bB BK302 hb); replace HB := bA (bS hb); (try clear hb)) | ((fail_if_success (have h_ := HO319)); go_at_call 63; (with_reducible refine (apogeelaw11_square.calls  t317 _ A8.out).mono ?_); rintro e w49 ⟨v318, rfl, ho0, hb⟩; have HO319 := bA (Kd.R_lower (Kd.R_new' (Kd.R_new' (Kd.R_new' (Kd.R_new' (Kd.R_new' ho0 (Kd.R_lt (bRr HO296))) (Kd.R_lt (bRr HO305))) (Kd.R_lt (bRr HO309))) (Kd.R_lt (bRr HO312))) (Kd.R_lt (bRr HO315))) bY); replace HO296 := bA (Kd.R_elder' (bRr HO296) (Kd.R_base ho0) hb); replace HO305 := bA (Kd.R_elder' (bRr HO305) (Kd.R_base ho0) hb); replace HO309 := bA (Kd.R_elder' (bRr HO309) (Kd.R_base ho0) hb); replace HO312 := bA (Kd.R_elder' (bRr HO312) (Kd.R_base ho0) hb); replace HO315 := bA (Kd.R_elder' (bRr HO315) (Kd.R_base ho0) hb); replace BK302 := bA (bB BK302 hb); replace HB := bA (bS hb); (try clear hb); (try clear ho0); obtain ⟨Ao50, co50, eo50⟩ := Kd.R_slice HO319.out; subst eo50) | (go_at_call 29; (with_reducible refine (poly_Simple.calls k _ _ t317 true _ ?side1 ?side2 A9.out).mono ?_); (case side1 => repeat (first | exact (Kd.R_reads' HO319.out).2.2 | (with_reducible refine Kd.C_alloc ?_ _) | (with_reducible refine Kd.C_drewN ?_ _) | (with_reducible refine Kd.C_drew ?_))); (case side2 => exact (Kd.R_reads' HO319.out).2.1); rintro e w51 ⟨rfl, hb⟩; replace HO296 := bA (Kd.R_below (bRr HO296) hb); replace HO305 := bA (Kd.R_below (bRr HO305) hb); replace HO309 := bA (Kd.R_below (bRr HO309) hb); replace HO312 := bA (Kd.R_below (bRr HO312) hb); replace HO315 := bA (Kd.R_below (bRr HO315) hb); replace HO319 := bA (Kd.R_below (bRr HO319) hb); replace BK302 := bA (bB BK302 hb); replace HB := bA (bS hb); (try clear hb); obtain ⟨Ao52, co52, eo52⟩ := Kd.R_slice HO312.out; subst eo52) | (go_at_call 29; (with_reducible refine (poly_Simple.calls k _ _ y310 false _ ?side1 ?side2 A11.out).mono ?_); (case side1 => repeat (first | exact (Kd.R_reads' HO312.out).2.2 | (with_reducible refine Kd.C_alloc ?_ _) | (with_reducible refine Kd.C_drewN ?_ _) | (with_reducible refine Kd.C_drew ?_))); (case side2 => exact (Kd.R_reads' HO312.out).2.1); rintro e w53 ⟨rfl, hb⟩; replace HO296 := bA (Kd.R_below (bRr HO296) hb); replace HO305 := bA (Kd.R_below (bRr HO305) hb); replace HO309 := bA (Kd.R_below (bRr HO309) hb); replace HO312 := bA (Kd.R_below (bRr HO312) hb); replace HO315 := bA (Kd.R_below (bRr HO315) hb); replace HO319 := bA (Kd.R_below (bRr HO319) hb); replace BK302 := bA (bB BK302 hb); replace HB := bA (bS hb); (try clear hb)) | ((fail_if_success (have h_ := HO324)); go_at_call 63; (with_reducible refine (apogeelaw11_square.calls  t322 _ A13.out).mono ?_); rintro e w54 ⟨v323, rfl, ho0, hb⟩; have HO324 := bA (Kd.R_lower (Kd.R_new' (Kd.R_new' (Kd.R_new' (Kd.R_new' (Kd.R_new' (Kd.R_new' ho0 (Kd.R_lt (bRr HO296))) (Kd.R_lt (bRr HO305))) (Kd.R_lt (bRr HO309))) (Kd.R_lt (bRr HO312))) (Kd.R_lt (bRr HO315))) (Kd.R_lt (bRr HO319))) bY); replace HO296 := bA (Kd.R_elder' (bRr HO296) (Kd.R_base ho0) hb); replace HO305 := bA (Kd.R_elder' (bRr HO305) (Kd.R_base ho0) hb); replace HO309 := bA (Kd.R_elder' (bRr HO309) (Kd.R_base ho0) hb); replace HO312 := bA (Kd.R_elder' (bRr HO312) (Kd.R_base ho0) hb); replace HO315 := bA (Kd.R_elder' (bRr HO315) (Kd.R_base ho0) hb); replace HO319 := bA (Kd.R_elder' (bRr HO319) (Kd.R_base ho0) hb); replace BK302 := bA (bB BK302 hb); replace HB := bA (bS hb); (try clear hb); (try clear ho0); obtain ⟨Ao55, co55, eo55⟩ := Kd.R_slice HO324.out; subst eo55) | (go_at_call 32; (with_reducible refine (poly_Side.calls k _ _ t322 2 2 t325 _ ?side1 ?side2 A14.out).mono ?_); (case side1 => repeat (first | exact (Kd.R_reads' HO324.out).2.2 | (with_reducible refine Kd.C_alloc ?_ _) | (with_reducible refine Kd.C_drewN ?_ _) | (with_reducible refine Kd.C_drew ?_))); (case side2 => exact (Kd.R_reads' HO324.out).2.1); rintro e w56 ⟨rfl, hb⟩; replace HO296 := bA (Kd.R_below (bRr HO296) hb); replace HO305 := bA (Kd.R_below (bRr HO305) hb); replace HO309 := bA (Kd.R_below (bRr HO309) hb); replace HO312 := bA (Kd.R_below (bRr HO312) hb); replace HO315 := bA (Kd.R_below (bRr HO315) hb); replace HO319 := bA (Kd.R_below (bRr HO319) hb); replace HO324 := bA (Kd.R_below (bRr HO324) hb); replace BK302 := bA (bB BK302 hb); replace HB := bA (bS hb); (try clear hb)) | ((fail_if_success (have h_ := HO328)); go_at_call 63; (with_reducible refine (apogeelaw11_square.calls  t326 _ A16.out).mono ?_); rintro e w57 ⟨v327, rfl, ho0, hb⟩; have HO328 := bA (Kd.R_lower (Kd.R_new' (Kd.R_new' (Kd.R_new' (Kd.R_new' (Kd.R_new' (Kd.R_new' (Kd.R_new' ho0 (Kd.R_lt (bRr HO296))) (Kd.R_lt (bRr HO305))) (Kd.R_lt (bRr HO309))) (Kd.R_lt (bRr HO312))) (Kd.R_lt (bRr HO315))) (Kd.R_lt (bRr HO319))) (Kd.R_lt (bRr HO324))) bY); replace HO296 := bA (Kd.R_elder' (bRr HO296) (Kd.R_base ho0) hb); replace HO305 := bA (Kd.R_elder' (bRr HO305) (Kd.R_base ho0) hb); replace HO309 := bA (Kd.R_elder' (bRr HO309) (Kd.R_base ho0) hb); replace HO312 := bA (Kd.R_elder' (bRr HO312) (Kd.R_base ho0) hb); replace HO315 := bA (Kd.R_elder' (bRr HO315) (Kd.R_base ho0) hb); replace HO319 := bA (Kd.R_elder' (bRr HO319) (Kd.R_base ho0) hb); replace HO324 := bA (Kd.R_elder' (bRr HO324) (Kd.R_base ho0) hb); replace BK302 := bA (bB BK302 hb); replace HB := bA (bS hb); (try clear hb); (try clear ho0); obtain ⟨Ao58, co58, eo58⟩ := Kd.R_slice HO328.out; subst eo58) | (go_at_call 32; (with_reducible refine (poly_Side.calls k _ _ t326 4 1 t329 _ ?side1 ?side2 A17.out).mono ?_); (case side1 => repeat (first | exact (Kd.R_reads' HO328.out).2.2 | (with_reducible refine Kd.C_alloc ?_ _) | (with_reducible refine Kd.C_drewN ?_ _) | (with_reducible refine Kd.C_drew ?_))); (case side2 => exact (Kd.R_reads' HO328.out).2.1); rintro e w59 ⟨rfl, hb⟩; replace HO296 := bA (Kd.R_below (bRr HO296) hb); replace HO305 := bA (Kd.R_below (bRr HO305) hb); replace HO309 := bA (Kd.R_below (bRr HO309) hb); replace HO312 := bA (Kd.R_below (bRr HO312) hb); replace HO315 := bA (Kd.R_below (bRr HO315) hb); replace HO319 := bA (Kd.R_below (bRr HO319) hb); replace HO324 := bA (Kd.R_below (bRr HO324) hb); replace HO328 := bA (Kd.R_below (bRr HO328) hb); replace BK302 := bA (bB BK302 hb); replace HB := bA (bS hb); (try clear hb)) | ((fail_if_success (have h_ := HO332)); go_at_call 63; (with_reducible refine (apogeelaw11_square.calls  t330 _ A19.out).mono ?_); rintro e w60 ⟨v331, rfl, ho0, hb⟩; have HO332 := bA (Kd.R_lower (Kd.R_new' (Kd.R_new' (Kd.R_new' (Kd.R_new' (Kd.R_new' (Kd.R_new' (Kd.R_new' (Kd.R_new' ho0 (Kd.R_lt (bRr HO296))) (Kd.R_lt (bRr HO305))) (Kd.R_lt (bRr HO309))) (Kd.R_lt (bRr HO312))) (Kd.R_lt (bRr HO315))) (Kd.R_lt (bRr HO319))) (Kd.R_lt (bRr HO324))) (Kd.R_lt (bRr HO328))) bY); replace HO296 := bA (Kd.R_elder' (bRr HO296) (Kd.R_base ho0) hb); replace HO305 := bA (Kd.R_elder' (bRr HO305) (Kd.R_base ho0) hb); replace HO309 := bA (Kd.R_elder' (bRr HO309) (Kd.R_base ho0) hb); replace HO312 := bA (Kd.R_elder' (bRr HO312) (Kd.R_base ho0) hb); replace HO315 := bA (Kd.R_elder' (bRr HO315) (Kd.R_base ho0) hb); replace HO319 := bA (Kd.R_elder' (bRr HO319) (Kd.R_base ho0) hb); replace HO324 := bA (Kd.R_elder' (bRr HO324) (Kd.R_base ho0) hb); replace HO328 := bA (Kd.R_elder' (bRr HO328) (Kd.R_base ho0) hb); replace BK302 := bA (bB BK302 hb); replace HB := bA (bS hb); (try clear hb); (try clear ho0); obtain ⟨Ao61, co61, eo61⟩ := Kd.R_slice HO332.out; subst eo61) | (go_at_call 32; (with_reducible refine (poly_Side.calls k _ _ t330 5 1 t333 _ ?side1 ?side2 A20.out).mono ?_); (case side1 => repeat (first | exact (Kd.R_reads' HO332.out).2.2 | (with_reducible refine Kd.C_alloc ?_ _) | (with_reducible refine Kd.C_drewN ?_ _) | (with_reducible refine Kd.C_drew ?_))); (case side2 => exact (Kd.R_reads' HO332.out).2.1); rintro e w62 ⟨rfl, hb⟩; replace HO296 := bA (Kd.R_below (bRr HO296) hb); replace HO305 := bA (Kd.R_below (bRr HO305) hb); replace HO309 := bA (Kd.R_below (bRr HO309) hb); replace HO312 := bA (Kd.R_below (bRr HO312) hb); replace HO315 := bA (Kd.R_below (bRr HO315) hb); replace HO319 := bA (Kd.R_below (bRr HO319) hb); replace HO324 := bA (Kd.R_below (bRr HO324) hb); replace HO328 := bA (Kd.R_below (bRr HO328) hb); replace HO332 := bA (Kd.R_below (bRr HO332) hb); replace BK302 := bA (bB BK302 hb); replace HB := bA (bS hb); (try clear hb)) | ((fail_if_success (have h_ := HO336)); go_at_call 63; (with_reducible refine (apogeelaw11_square.calls  t334 _ A22.out).mono ?_); rintro e w63 ⟨v335, rfl, ho0, hb⟩; have HO336 := bA (Kd.R_lower (Kd.R_new' (Kd.R_new' (Kd.R_new' (Kd.R_new' (Kd.R_new' (Kd.R_new' (Kd.R_new' (Kd.R_new' (Kd.R_new' ho0 (Kd.R_lt (bRr HO296))) (Kd.R_lt (bRr HO305))) (Kd.R_lt (bRr HO309))) (Kd.R_lt (bRr HO312))) (Kd.R_lt (bRr HO315))) (Kd.R_lt (bRr HO319))) (Kd.R_lt (bRr HO324))) (Kd.R_lt (bRr HO328))) (Kd.R_lt (bRr HO332))) bY); replace HO296 := bA (Kd.R_elder' (bRr HO296) (Kd.R_base ho0) hb); replace HO305 := bA (Kd.R_elder' (bRr HO305) (Kd.R_base ho0) hb); replace HO309 := bA (Kd.R_elder' (bRr HO309) (Kd.R_base ho0) hb); replace HO312 := bA (Kd.R_elder' (bRr HO312) (Kd.R_base ho0) hb); replace HO315 := bA (Kd.R_elder' (bRr HO315) (Kd.R_base ho0) hb); replace HO319 := bA (Kd.R_elder' (bRr HO319) (Kd.R_base ho0) hb); replace HO324 := bA (Kd.R_elder' (bRr HO324) (Kd.R_base ho0) hb); replace HO328 := bA (Kd.R_elder' (bRr HO328) (Kd.R_base ho0) hb); replace HO332 := bA (Kd.R_elder' (bRr HO332) (Kd.R_base ho0) hb); replace BK302 := bA (bB BK302 hb); replace HB := bA (bS hb); (try clear hb); (try clear ho0); obtain ⟨Ao64, co64, eo64⟩ := Kd.R_slice HO336.out; subst eo64) | (go_at_call 34; (with_reducible refine (poly_Left.calls k _ _ t334 true _ ?side1 ?side2 A23.out).mono ?_); (case side1 => repeat (first | exact (Kd.R_reads' HO336.out).2.2 | (with_reducible refine Kd.C_alloc ?_ _) | (with_reducible refine Kd.C_drewN ?_ _) | (with_reducible refine Kd.C_drew ?_))); (case side2 => exact (Kd.R_reads' HO336.out).2.1); rintro e w65 ⟨rfl, hb⟩; replace HO296 := bA (Kd.R_below (bRr HO296) hb); replace HO305 := bA (Kd.R_below (bRr HO305) hb); replace HO309 := bA (Kd.R_below (bRr HO309) hb); replace HO312 := bA (Kd.R_below (bRr HO312) hb); replace HO315 := bA (Kd.R_below (bRr HO315) hb); replace HO319 := bA (Kd.R_below (bRr HO319) hb); replace HO324 := bA (Kd.R_below (bRr HO324) hb); replace HO328 := bA (Kd.R_below (bRr HO328) hb); replace HO332 := bA (Kd.R_below (bRr HO332) hb); replace HO336 := bA (Kd.R_below (bRr HO336) hb); replace BK302 := bA (bB BK302 hb); replace HB := bA (bS hb); (try clear hb)) | ((fail_if_success (have h_ := HO340)); go_at_call 63; (with_reducible refine (apogeelaw11_square.calls  t338 _ A25.out).mono ?_); rintro e w66 ⟨v339, rfl, ho0, hb⟩; have HO340 := bA (Kd.R_lower (Kd.R_new' (Kd.R_new' (Kd.R_new' (Kd.R_new' (Kd.R_new' (Kd.R_new' (Kd.R_new' (Kd.R_new' (Kd.R_new' (Kd.R_new' ho0 (Kd.R_lt (bRr HO296))) (Kd.R_lt (bRr HO305))) (Kd.R_lt (bRr HO309))) (Kd.R_lt (bRr HO312))) (Kd.R_lt (bRr HO315))) (Kd.R_lt (bRr HO319))) (Kd.R_lt (bRr HO324))) (Kd.R_lt (bRr HO328))) (Kd.R_lt (bRr HO332))) (Kd.R_lt (bRr HO336))) bY); replace HO296 := bA (Kd.R_elder' (bRr HO296) (Kd.R_base ho0) hb); replace HO305 := bA (Kd.R_elder' (bRr HO305) (Kd.R_base ho0) hb); replace HO309 := bA (Kd.R_elder' (bRr HO309) (Kd.R_base ho0) hb); replace HO312 := bA (Kd.R_elder' (bRr HO312) (Kd.R_base ho0) hb); replace HO315 := bA (Kd.R_elder' (bRr HO315) (Kd.R_base ho0) hb); replace HO319 := bA (Kd.R_elder' (bRr HO319) (Kd.R_base ho0) hb); replace HO324 := bA (Kd.R_elder' (bRr HO324) (Kd.R_base ho0) hb); replace HO328 := bA (Kd.R_elder' (bRr HO328) (Kd.R_base ho0) hb); replace HO332 := bA (Kd.R_elder' (bRr HO332) (Kd.R_base ho0) hb); replace HO336 := bA (Kd.R_elder' (bRr HO336) (Kd.R_base ho0) hb); replace BK302 := bA (bB BK302 hb); replace HB := bA (bS hb); (try clear hb); (try clear ho0); obtain ⟨Ao67, co67, eo67⟩ := Kd.R_slice HO340.out; subst eo67) | (go_at_call 37; (with_reducible refine (poly_Back.calls k _ _ t338 t341 _ ?side1 ?side2 A26.out).mono ?_); (case side1 => repeat (first | exact (Kd.R_reads' HO340.out).2.2 | (with_reducible refine Kd.C_alloc ?_ _) | (with_reducible refine Kd.C_drewN ?_ _) | (with_reducible refine Kd.C_drew ?_))); (case side2 => exact (Kd.R_reads' HO340.out).2.1); rintro e w68 ⟨v342, rfl, ho0, hb⟩; have HO343 := bA (Kd.R_lower (Kd.R_new' (Kd.R_new' (Kd.R_new' (Kd.R_new' (Kd.R_new' (Kd.R_new' (Kd.R_new' (Kd.R_new' (Kd.R_new' (Kd.R_new' (Kd.R_new' ho0 (Kd.R_lt (bRr HO296))) (Kd.R_lt (bRr HO305))) (Kd.R_lt (bRr HO309))) (Kd.R_lt (bRr HO312))) (Kd.R_lt (bRr HO315))) (Kd.R_lt (bRr HO319))) (Kd.R_lt (bRr HO324))) (Kd.R_lt (bRr HO328))) (Kd.R_lt (bRr HO332))) (Kd.R_lt (bRr HO336))) (Kd.R_lt (bRr HO340))) bY); replace HO296 := bA (Kd.R_elder' (bRr HO296) (Kd.R_base ho0) hb); replace HO305 := bA (Kd.R_elder' (bRr HO305) (Kd.R_base ho0) hb); replace HO309 := bA (Kd.R_elder' (bRr HO309) (Kd.R_base ho0) hb); replace HO312 := bA (Kd.R_elder' (bRr HO312) (Kd.R_base ho0) hb); replace HO315 := bA (Kd.R_elder' (bRr HO315) (Kd.R_base ho0) hb); replace HO319 := bA (Kd.R_elder' (bRr HO319) (Kd.R_base ho0) hb); replace HO324 := bA (Kd.R_elder' (bRr HO324) (Kd.R_base ho0) hb); replace HO328 := bA (Kd.R_elder' (bRr HO328) (Kd.R_base ho0) hb); replace HO332 := bA (Kd.R_elder' (bRr HO332) (Kd.R_base ho0) hb); replace HO336 := bA (Kd.R_elder' (bRr HO336) (Kd.R_base ho0) hb); replace HO340 := bA (Kd.R_elder' (bRr HO340) (Kd.R_base ho0) hb); replace BK302 := bA (bB BK302 hb); replace HB := bA (bS hb); (try clear hb); (try clear ho0); obtain ⟨Ao69, co69, eo69⟩ := Kd.R_slice HO343.out; subst eo69) | (go_at_call 34; (with_reducible refine (poly_Left.calls k _ _ t341 false _ ?side1 ?side2 A27.out).mono ?_); (case side1 => repeat (first | exact (Kd.R_reads' HO343.out).2.2 | (with_reducible refine Kd.C_alloc ?_ _) | (with_reducible refine Kd.C_drewN ?_ _) | (with_reducible refine Kd.C_drew ?_))); (case side2 => exact (Kd.R_reads' HO343.out).2.1); rintro e w70 ⟨rfl, hb⟩; replace HO296 := bA (Kd.R_below (bRr HO296) hb); replace HO305 := bA (Kd.R_below (bRr HO305) hb); replace HO309 := bA (Kd.R_below (bRr HO309) hb); replace HO312 := bA (Kd.R_below (bRr HO312) hb); replace HO315 := bA (Kd.R_below (bRr HO315) hb); replace HO319 := bA (Kd.R_below (bRr HO319) hb); replace HO324 := bA (Kd.R_below (bRr HO324) hb); replace HO328 := bA (Kd.R_below (bRr HO328) hb); replace HO332 := bA (Kd.R_below (bRr HO332) hb); replace HO336 := bA (Kd.R_below (bRr HO336) hb); replace HO340 := bA (Kd.R_below (bRr HO340) hb); replace HO343 := bA (Kd.R_below (bRr HO343) hb); replace BK302 := bA (bB BK302 hb); replace HB := bA (bS hb); (try clear hb); obtain ⟨hcz71_0, hcz71_1, hcz71_2, hcz71_3, hfz71_0, hfz71_1, hfz71_2, hfz71_3⟩ := bc4 BK302; obtain ⟨Ao72, co72, eo72⟩ := Kd.R_slice HO309.out; subst eo72; have p345 : 0 ≤ (0 : Int) := (by omega); have q345 : 0 < (t306.length : Int) := bo; obtain ⟨ad345, e345, hx345_0, hx345_1⟩ := at_T41 (Kd.R_reads' HO309.out).2.2 0 p345 q345; cases e345; have qi345 : (0 < t306.length) = True := eq_true (by omega); (try rw [show ((0 : Int)).toNat = 0 from rfl] at hx345_0); (try rw [show 0 * 2 = 0 from rfl] at hx345_0); (try rw [Addr.add_zero'] at hx345_0); (try rw [show ((0 : Int)).toNat = 0 from rfl] at hx345_1); (try rw [show 0 * 2 = 0 from rfl] at hx345_1); (try rw [Addr.add_zero'] at hx345_1); replace p345 := eq_true p345; replace q345 := eq_true q345) | (go_at_call 32; (with_reducible refine (poly_Side.calls k _ _ y310 1 2 t346 _ ?side1 ?side2 A35.out).mono ?_); (case side1 => repeat (first | exact (Kd.R_reads' HO312.out).2.2 | (with_reducible refine Kd.C_alloc ?_ _) | (with_reducible refine Kd.C_drewN ?_ _) | (with_reducible refine Kd.C_drew ?_))); (case side2 => exact (Kd.R_reads' HO312.out).2.1); rintro e w73 ⟨rfl, hb⟩; replace HO296 := bA (Kd.R_below (bRr HO296) hb); replace HO305 := bA (Kd.R_below (bRr HO305) hb); replace HO309 := bA (Kd.R_below (bRr HO309) hb); replace HO312 := bA (Kd.R_below (bRr HO312) hb); replace HO315 := bA (Kd.R_below (bRr HO315) hb); replace HO319 := bA (Kd.R_below (bRr HO319) hb); replace HO324 := bA (Kd.R_below (bRr HO324) hb); replace HO328 := bA (Kd.R_below (bRr HO328) hb); replace HO332 := bA (Kd.R_below (bRr HO332) hb); replace HO336 := bA (Kd.R_below (bRr HO336) hb); replace HO340 := bA (Kd.R_below (bRr HO340) hb); replace HO343 := bA (Kd.R_below (bRr HO343) hb); replace BK302 := bA (bB BK302 hb); replace HB := bA (bS hb); (try clear hb)))
 go_ret
 exact bF
/-! ### apogeelaw11_few: function 26 -/
def apogeelaw11_few.f (l0 : List (S41)) : Option (Bool) := some (decide ((l0.length : Int) ≤ 12))
set_option maxHeartbeats 8000000 in
set_option maxRecDepth 100000 in
theorem apogeelaw11_few.calls (A0 : Option Addr) (c0 : Nat) (l0 : List (S41)) (r : Bool) (w : World) (hr0 : Kd.C k41 w A0 l0.length l0) (hc0 : l0.length ≤ c0) (h : apogeelaw11_few.f l0 = some r) :
  Calls Try.prog 26 #[.slice A0 l0.length c0] w fun e w' => e = .returned (.bool r) ∧ Drawn0 w w' := by
 have HR0 := bA hr0
 have HC0 := bA hc0
 clear hr0 hc0
 have H : (some (decide ((l0.length : Int) ≤ 12))) = some r := h
 clear h
 obtain rfl := Option.some.inj H
 go_enter Try.func26, Try.ntmps26
 go_wp2
 go_ret
 exact bD
/-! ### apogeeref10_Right: function 40 -/
def apogeeref10_Right.f (a0_0 : Int) (a0_1 : Int) : Option (Bool) := if a0_0 ≥ (-1099511627776) then (if a0_0 ≤ 1099511627776 then (if a0_1 ≥ (-1099511627776) then (some (decide (a0_1 ≤ 1099511627776))) else (some false)) else (some false)) else (some false)
set_option maxHeartbeats 8000000 in
set_option maxRecDepth 100000 in
theorem apogeeref10_Right.calls (a0_0 : Int) (a0_1 : Int) (r : Bool) (w : World) (h : apogeeref10_Right.f a0_0 a0_1 = some r) :
  Calls Try.prog 40 #[.agg #[.int .i64 a0_0, .int .i64 a0_1]] w fun e w' => e = .returned (.bool r) ∧ Below w.heap.size w w' := by
 have hu41 := Try.underlying41
 have HB := bA (Below.refl w.heap.size w)
 have H : (if a0_0 ≥ (-1099511627776) then (if a0_0 ≤ 1099511627776 then (if a0_1 ≥ (-1099511627776) then (some (decide (a0_1 ≤ 1099511627776))) else (some false)) else (some false)) else (some false)) = some r := h
 clear h
 by_cases c2 : a0_0 ≥ (-1099511627776)
 rw [if_pos c2] at H
 have c2b0 : decide ((-1099511627776) ≤ a0_0) = true := decide_eq_true c2
 clear c2
 by_cases c3 : a0_0 ≤ 1099511627776
 rw [if_pos c3] at H
 have c3b0 : decide (a0_0 ≤ 1099511627776) = true := decide_eq_true c3
 clear c3
 by_cases c4 : a0_1 ≥ (-1099511627776)
 rw [if_pos c4] at H
 have c4b0 : decide ((-1099511627776) ≤ a0_1) = true := decide_eq_true c4
 clear c4
 obtain rfl := Option.some.inj H
 rotate_left
 rw [if_neg c4] at H
 have c4b0 : decide ((-1099511627776) ≤ a0_1) = false := decide_eq_false c4
 clear c4
 obtain rfl := Option.some.inj H
 rotate_left
 rw [if_neg c3] at H
 have c3b0 : decide (a0_0 ≤ 1099511627776) = false := decide_eq_false c3
 clear c3
 obtain rfl := Option.some.inj H
 rotate_left
 rw [if_neg c2] at H
 have c2b0 : decide ((-1099511627776) ≤ a0_0) = false := decide_eq_false c2
 clear c2
 obtain rfl := Option.some.inj H
 rotate_left
 all_goals go_enter Try.func40, Try.ntmps40
 all_goals go_wp2_with (first | ((with_reducible refine gate_dst (N := 1) rfl ?_); refine bE (N := 1) (cs := #[.int .i64 a0_0, .int .i64 a0_1]) (t := 41) ?_; intro gb347 hg wz0 hbox hb; have BK347 := bA (hbox); have GW347 := bA (bZ hg); have GE347 := bA (bZ hg); replace HB := bA (bS hb); clear hb hbox hg; obtain ⟨hz1, hz2, hz3, hz4⟩ := bc2 BK347))
 all_goals (go_ret; exact bF)
/-! ### apogeeref11_next: function 69 -/
def apogeeref11_next.f (l0 : List (S41)) (a1 : Int) : Option (Int × Int) := if (l0.length : Int) = 0 then (none) else (if 0 ≤ (Int.tmod (wrap64 (a1 + 1)) (l0.length : Int)) then (if (Int.tmod (wrap64 (a1 + 1)) (l0.length : Int)) < (l0.length : Int) then (some ((rd_T41 l0 (Int.tmod (wrap64 (a1 + 1)) (l0.length : Int))).f0, (rd_T41 l0 (Int.tmod (wrap64 (a1 + 1)) (l0.length : Int))).f1)) else (none)) else (none))
set_option maxHeartbeats 8000000 in
set_option maxRecDepth 100000 in
theorem apogeeref11_next.calls (A0 : Option Addr) (c0 : Nat) (l0 : List (S41)) (a1 : Int) (r1 : Int) (r2 : Int) (w : World) (hr0 : Kd.C k41 w A0 l0.length l0) (hc0 : l0.length ≤ c0) (h : apogeeref11_next.f l0 a1 = some (r1, r2)) :
  Calls Try.prog 69 #[.slice A0 l0.length c0, .int .i64 a1] w fun e w' => e = .returned (.agg #[.int .i64 r1, .int .i64 r2]) ∧ Below w.heap.size w w' := by
 have hu41 := Try.underlying41
 have HR0 := bA hr0
 have HC0 := bA hc0
 clear hr0 hc0
 have HB := bA (Below.refl w.heap.size w)
 have H : (if (l0.length : Int) = 0 then (none) else (if 0 ≤ (Int.tmod (wrap64 (a1 + 1)) (l0.length : Int)) then (if (Int.tmod (wrap64 (a1 + 1)) (l0.length : Int)) < (l0.length : Int) then (some ((rd_T41 l0 (Int.tmod (wrap64 (a1 + 1)) (l0.length : Int))).f0, (rd_T41 l0 (Int.tmod (wrap64 (a1 + 1)) (l0.length : Int))).f1)) else (none)) else (none))) = some (r1, r2) := h
 clear h
 by_cases c3 : (l0.length : Int) = 0
 ·rw [if_pos c3] at H
  exact absurd H (by simp)
 rw [if_neg c3] at H
 have c3b0 : ((l0.length : Int) == 0) = false := beq_eq_false_iff_ne.mpr c3
 have c3b1 : ((l0.length : Int) != 0) = true := bne_iff_ne.mpr c3
 have c3b2 : ¬ (l0 = []) := fun h_ => c3 (by rw [h_]; rfl)
 obtain ⟨ji4, hji4⟩ : ∃ j_ : Int, (Int.tmod (wrap64 (a1 + 1)) (l0.length : Int)) = j_ := ⟨_, rfl⟩
 replace H : (if 0 ≤ (ji4) then (if (ji4) < (l0.length : Int) then (some ((rd_T41 l0 (ji4)).f0, (rd_T41 l0 (ji4)).f1)) else (none)) else (none)) = some (r1, r2) := by first | (rw [hji4] at H; exact H) | (simp only [hji4] at H ⊢; exact H)
 by_cases c5 : 0 ≤ (ji4)
 rotate_left
 ·rw [if_neg c5] at H
  exact absurd H (by simp)
 rw [if_pos c5] at H
 have c5b0 : decide (0 ≤ (ji4)) = true := decide_eq_true c5
 clear c5
 by_cases c6 : (ji4) < (l0.length : Int)
 rotate_left
 ·rw [if_neg c6] at H
  exact absurd H (by simp)
 rw [if_pos c6] at H
 have c6b0 : decide ((ji4) < (l0.length : Int)) = true := decide_eq_true c6
 clear c6
 simp only [Option.some.injEq, Prod.mk.injEq] at H
 obtain ⟨rfl, rfl⟩ := H
 go_enter Try.func69, Try.ntmps69
 go_wp2_with (first | ((with_reducible refine gate_dst (N := 4) rfl ?_); refine bE (N := 4) (cs := #[.int .i64 0, .int .i64 0]) (t := 41) ?_; intro gb348 hg w7 hbox hb; have BK348 := bA (hbox); have GW348 := bA (bZ hg); have GE348 := bA (bZ hg); replace HB := bA (bS hb); clear hb hbox hg; have p349 : 0 ≤ ((ji4) : Int) := bo; have q349 : (ji4) < (l0.length : Int) := bo; obtain ⟨ad349, e349, hx349_0, hx349_1⟩ := at_T41 HR0.out (ji4) p349 q349; cases e349; replace hx349_0 := bK hx349_0; replace hx349_1 := bK hx349_1; replace p349 := eq_true p349; replace q349 := eq_true q349; obtain ⟨hcz8_0, hcz8_1, hfz8_0, hfz8_1⟩ := bc2 BK348))
 refine bodyPost_ret (results_cell_row rfl _ _ gb348 41 #[.int .i64 ((rd_T41 l0 (ji4)).f0), .int .i64 ((rd_T41 l0 (ji4)).f1)] (0, 0) _ rfl (by (with_reducible repeat (first | refine blk_drewN ?_ _ | refine blk_drew ?_ | refine blk_alloc ?_ _)); refine blk_put (cs := #[.int .i64 ((rd_T41 l0 (ji4)).f0), .int .i64 0]) ?_ 1 _ rfl; (with_reducible repeat (first | refine blk_drewN ?_ _ | refine blk_drew ?_ | refine blk_alloc ?_ _)); refine blk_put (cs := #[.int .i64 0, .int .i64 0]) ?_ 0 _ rfl; (with_reducible repeat (first | refine blk_drewN ?_ _ | refine blk_drew ?_ | refine blk_alloc ?_ _)); exact BK348.out) Try.underlying41 rfl (by kernel_rfl)) rfl ?_
 exact ⟨by first | rfl | (simp [errW_none, errW_some] <;> rfl) | (simp only [← hji4]; first | rfl | (simp [errW_none, errW_some] <;> rfl)) | (simp [*, errW_none, errW_some] <;> rfl), by repeat (first | (with_reducible first | exact HB.out | apply below_alloc | apply pw_below_drewN | apply below_drew1 | refine below_set ?_ GE348.out) | exact HB.out)⟩
/-! ### apogeeref10_short: function 105 -/
def apogeeref10_short.f (a0 : Int) : Option (Bool) := if a0 > (-2147483648) then (some (decide (a0 < 2147483648))) else (some false)
set_option maxHeartbeats 8000000 in
set_option maxRecDepth 100000 in
theorem apogeeref10_short.calls (a0 : Int) (r : Bool) (w : World) (h : apogeeref10_short.f a0 = some r) :
  Calls Try.prog 105 #[.int .i64 a0] w fun e w' => e = .returned (.bool r) ∧ Drawn0 w w' := by
 have H : (if a0 > (-2147483648) then (some (decide (a0 < 2147483648))) else (some false)) = some r := h
 clear h
 by_cases c2 : a0 > (-2147483648)
 rw [if_pos c2] at H
 have c2b0 : decide ((-2147483648) < a0) = true := decide_eq_true c2
 clear c2
 obtain rfl := Option.some.inj H
 rotate_left
 rw [if_neg c2] at H
 have c2b0 : decide ((-2147483648) < a0) = false := decide_eq_false c2
 clear c2
 obtain rfl := Option.some.inj H
 rotate_left
 all_goals go_enter Try.func105, Try.ntmps105
 all_goals go_wp2
 all_goals (go_ret; exact bD)
/-! ### apogeeref01_Of: function 110 -/
def apogeeref01_Of.f (a0 : Int) : Option (Int × Int) := if a0 < 0 then (some ((-1), IntKind.u64.wrap (a0))) else (some (0, IntKind.u64.wrap (a0)))
set_option maxHeartbeats 8000000 in
set_option maxRecDepth 100000 in
theorem apogeeref01_Of.calls (a0 : Int) (r1 : Int) (r2 : Int) (w : World) (h : apogeeref01_Of.f a0 = some (r1, r2)) :
  Calls Try.prog 110 #[.int .i64 a0] w fun e w' => e = .returned (.agg #[.int .i64 r1, .int .u64 r2]) ∧ Below w.heap.size w w' := by
 have hu90 := Try.underlying90
 have HB := bA (Below.refl w.heap.size w)
 have H : (if a0 < 0 then (some ((-1), IntKind.u64.wrap (a0))) else (some (0, IntKind.u64.wrap (a0)))) = some (r1, r2) := h
 clear h
 by_cases c2 : a0 < 0
 rw [if_pos c2] at H
 have c2b0 : decide (a0 < 0) = true := decide_eq_true c2
 clear c2
 simp only [Option.some.injEq, Prod.mk.injEq] at H
 obtain ⟨rfl, rfl⟩ := H
 rotate_left
 rw [if_neg c2] at H
 have c2b0 : decide (a0 < 0) = false := decide_eq_false c2
 clear c2
 simp only [Option.some.injEq, Prod.mk.injEq] at H
 obtain ⟨rfl, rfl⟩ := H
 rotate_left
 all_goals go_enter Try.func110, Try.ntmps110
 all_goals go_wp2_with (first | ((with_reducible refine gate_dst (N := 2) rfl ?_); refine bE (N := 2) (cs := #[.int .i64 0, .int .u64 0]) (t := 90) ?_; intro gb350 hg wz0 hbox hb; have BK350 := bA (hbox); have GW350 := bA (bZ hg); have GE350 := bA (bZ hg); replace HB := bA (bS hb); clear hb hbox hg; obtain ⟨hz1, hz2, hz3, hz4⟩ := bc2 BK350))
 ·refine bodyPost_ret (results_cell_row rfl _ _ gb350 90 #[.int .i64 (-1), .int .u64 (IntKind.u64.wrap (a0))] (0, 0) _ rfl (by (with_reducible repeat (first | refine blk_drewN ?_ _ | refine blk_drew ?_ | refine blk_alloc ?_ _)); refine blk_put (cs := #[.int .i64 (-1), .int .u64 0]) ?_ 1 _ rfl; (with_reducible repeat (first | refine blk_drewN ?_ _ | refine blk_drew ?_ | refine blk_alloc ?_ _)); refine blk_put (cs := #[.int .i64 0, .int .u64 0]) ?_ 0 _ rfl; (with_reducible repeat (first | refine blk_drewN ?_ _ | refine blk_drew ?_ | refine blk_alloc ?_ _)); exact BK350.out) Try.underlying90 rfl (by kernel_rfl)) rfl ?_
  exact bF
 refine bodyPost_ret (results_cell_row rfl _ _ gb350 90 #[.int .i64 0, .int .u64 (IntKind.u64.wrap (a0))] (0, 0) _ rfl (by (with_reducible repeat (first | refine blk_drewN ?_ _ | refine blk_drew ?_ | refine blk_alloc ?_ _)); refine blk_put (cs := #[.int .i64 0, .int .u64 0]) ?_ 1 _ rfl; (with_reducible repeat (first | refine blk_drewN ?_ _ | refine blk_drew ?_ | refine blk_alloc ?_ _)); refine blk_put (cs := #[.int .i64 0, .int .u64 0]) ?_ 0 _ rfl; (with_reducible repeat (first | refine blk_drewN ?_ _ | refine blk_drew ?_ | refine blk_alloc ?_ _)); exact BK350.out) Try.underlying90 rfl (by kernel_rfl)) rfl ?_
 exact bF
end Go.Proofs.Ytjmibjmlihmglaa.G
