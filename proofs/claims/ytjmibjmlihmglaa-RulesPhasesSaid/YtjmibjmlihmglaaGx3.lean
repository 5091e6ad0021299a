-- Written by a program of this session out of the translation; Lean checks it.
import Derived.Test.YtjmibjmlihmglaaGx0
namespace Go.Proofs.Ytjmibjmlihmglaa.G
open Go.RowKit Go.Proofs.YtjmibjmlihmglaaW.PrintWords Go.Proofs.YtjmibjmlihmglaaW.PrintLast Go.Proofs.YtjmibjmlihmglaaW.PrintMore
attribute [local go_sem] max2_int min2_int max_two min_two max_three min_three max_four min_four   -- for this text's walks alone
set_option linter.unusedVariables false
set_option linter.unusedSimpArgs false

/-! ### apogeelaw13_Mission: function 53 -/
def apogeelaw13_Mission.l0 : Nat → Int → Int → List (S30) → Int → Int → Int → Int → Int → Int → Int → Int → Option ((List (S30)) × Int × Int × Int × Int × Int × Int × Int × Int)
 | 0, _, _, _, _, _, _, _, _, _, _, _ => none
 | k + 1, x6, x7, x103000, x103001, x103002, x103003, x103004, x103005, x103006, x103007, x103008 => if x7 < x6 then (if x103000.length < 2513169434916 then (apogeelaw13_Mission.l0 k x6 (wrap64 (x7 + 1)) (x103000 ++ [(⟨(([(⟨(-1000), (-1000)⟩ : S41), (⟨1000, (-1000)⟩ : S41), (⟨1000, 1000⟩ : S41), (⟨(-1000), 1000⟩ : S41)] : List (S41))), 1, 200, 5, 100⟩ : S30)]) x103001 x103002 x103003 x103004 x103005 x103006 x103007 x103008) else (none)) else (some (x103000, x103001, x103002, x103003, x103004, x103005, x103006, x103007, x103008))
def apogeelaw13_Mission.f (k : Nat) (a0 : Int) : Option ((List (S30)) × Int × Int × Int × Int × Int × Int × Int × Int) := apogeelaw13_Mission.l0 k a0 0 ([] : List (S30)) 2 3 4 2 50 2 10 a0
theorem apogeelaw13_Mission.mono_l : ∀ k, (∀ y0 y1 y2 y3 y4 y5 y6 y7 y8 y9 y10, LeO (apogeelaw13_Mission.l0 k y0 y1 y2 y3 y4 y5 y6 y7 y8 y9 y10) (apogeelaw13_Mission.l0 (k + 1) y0 y1 y2 y3 y4 y5 y6 y7 y8 y9 y10))
 | 0 => fun _ _ _ _ _ _ _ _ _ _ _ r h => by simp [apogeelaw13_Mission.l0] at h
 | k + 1 => by
  have ih0 := apogeelaw13_Mission.mono_l k
  ·intro y0 y1 y2 y3 y4 y5 y6 y7 y8 y9 y10
   unfold apogeelaw13_Mission.l0
   exact bMo
theorem apogeelaw13_Mission.mono : ∀ a0 k, LeO (apogeelaw13_Mission.f k a0) (apogeelaw13_Mission.f (k + 1) a0) := by
 intro a0 k
 have ih0 := apogeelaw13_Mission.mono_l k
 unfold apogeelaw13_Mission.f
 exact bMo
set_option maxHeartbeats 8000000 in
set_option maxRecDepth 100000 in
theorem apogeelaw13_Mission.calls (k : Nat) (a0 : Int) (r1 : List (S30)) (r2 : Int) (r3 : Int) (r4 : Int) (r5 : Int) (r6 : Int) (r7 : Int) (r8 : Int) (r9 : Int) (w : World) (h : apogeelaw13_Mission.f k a0 = some (r1, r2, r3, r4, r5, r6, r7, r8, r9)) :
  Calls Try.prog 53 #[.int .i64 a0] w fun e w' => ∃ v0_ : Value, e = .returned (.agg #[v0_, .int .i64 r2, .int .i64 r3, .int .i64 r4, .int .i64 r5, .int .i64 r6, .int .i64 r7, .int .i64 r8, .int .i64 r9]) ∧ Kd.S k30 30 w' w.heap.size (fun _ => True) v0_ r1 ∧ Below w.heap.size w w' := by
 have hu24 := Try.underlying24
 have hu41 := Try.underlying41
 have hu30 := Try.underlying30
 have HB := bA (Below.refl w.heap.size w)
 have H : (apogeelaw13_Mission.l0 k a0 0 ([] : List (S30)) 2 3 4 2 50 2 10 a0) = some (r1, r2, r3, r4, r5, r6, r7, r8, r9) := h
 clear h
 have H' := bA H
 clear H
 go_enter Try.func53, Try.ntmps53
 go_wp2_with (first | ((with_reducible refine gate_dst (N := 2) rfl ?_); refine bE (N := 2) (cs := #[.slice none 0 0, .int .i64 0, .int .i64 0, .int .i64 0, .int .i64 0, .int .i64 0, .int .i64 0, .int .i64 0, .int .i64 0]) (t := 24) ?_; intro gb101 hg w2 hbox hb; have BK101 := bA (hbox); have GW101 := bA (bZ hg); have GE101 := bA (bZ hg); replace HB := bA (bS hb); clear hb hbox hg) | ((with_reducible refine gate_dst (N := 3) rfl ?_); refine bE (N := 3) (cs := #[.slice none 0 0, .int .i64 0, .int .i64 0, .int .i64 0, .int .i64 0, .int .i64 0, .int .i64 0, .int .i64 0, .int .i64 0]) (t := 24) ?_; intro gb102 hg w3 hbox hb; have BK102 := bA (hbox); have GW102 := bA (bZ hg); have GE102 := bA (bZ hg); have NB101_102 := bA (bL BK101 hg); have NB102_101 := bA (bG BK101 hg); replace BK101 := bA (bB BK101 hb); replace HB := bA (bS hb); clear hb hbox hg; have hnb4 := NB102_101.out; have hnc4 := NB101_102.out; obtain ⟨hcz5_0, hcz5_1, hcz5_2, hcz5_3, hcz5_4, hcz5_5, hcz5_6, hcz5_7, hcz5_8, hfz5_0, hfz5_1, hfz5_2, hfz5_3, hfz5_4, hfz5_5, hfz5_6, hfz5_7, hfz5_8⟩ := bc9 BK102))
 go_loopg [7] k (fun kq v7 w' => ∃ (x7_1 : Int) (x103000_1 : List (S30)) (u103000 : Value), v7 = .int .i64 x7_1 ∧ Aside0 (apogeelaw13_Mission.l0 kq a0 x7_1 x103000_1 2 3 4 2 50 2 10 a0 = some (r1, r2, r3, r4, r5, r6, r7, r8, r9)) ∧ Aside0 (kq ≤ k) ∧ Aside0 (Kd.S k30 30 w' w.heap.size (fun _ => True) u103000 x103000_1) ∧ Aside0 (w'.heap[gb101]? = some (.cells #[(.slice none 0 0), .int .i64 0, .int .i64 0, .int .i64 0, .int .i64 0, .int .i64 0, .int .i64 0, .int .i64 0, .int .i64 0] 24 (0, 0))) ∧ Aside0 (w'.heap[gb102]? = some (.cells #[u103000, .int .i64 2, .int .i64 3, .int .i64 4, .int .i64 2, .int .i64 50, .int .i64 2, .int .i64 10, .int .i64 a0] 24 (0, 0))) ∧ Aside0 (Below w.heap.size w w'))
 case atStart => exact ⟨(0), (([] : List (S30))), (.slice none 0 0), bs, H', ⟨Nat.le_refl _⟩, ⟨by first | exact Kd.S_nil _ _ _ _ _ | exact Kd.N_nil _ _ _ _ _ | exact Kd.V_nil _ _ _ _ _ | exact Kd.Q_nil _ _ _ _ _ | exact Kd.R_nil _ _ _ _ _⟩, ⟨by (repeat ((with_reducible repeat (first | refine blk_drewN ?_ _ | refine blk_drew ?_ | refine blk_alloc ?_ _)); refine blk_far ?_ NB101_102.out _)); (with_reducible repeat (first | refine blk_drewN ?_ _ | refine blk_drew ?_ | refine blk_alloc ?_ _)); exact BK101.out⟩, ⟨by (with_reducible repeat (first | refine blk_drewN ?_ _ | refine blk_drew ?_ | refine blk_alloc ?_ _)); refine blk_put (cs := #[.slice none 0 0, .int .i64 2, .int .i64 3, .int .i64 4, .int .i64 2, .int .i64 50, .int .i64 2, .int .i64 10, .int .i64 0]) ?_ 8 _ rfl; (with_reducible repeat (first | refine blk_drewN ?_ _ | refine blk_drew ?_ | refine blk_alloc ?_ _)); refine blk_put (cs := #[.slice none 0 0, .int .i64 2, .int .i64 3, .int .i64 4, .int .i64 2, .int .i64 50, .int .i64 2, .int .i64 0, .int .i64 0]) ?_ 7 _ rfl; (with_reducible repeat (first | refine blk_drewN ?_ _ | refine blk_drew ?_ | refine blk_alloc ?_ _)); refine blk_put (cs := #[.slice none 0 0, .int .i64 2, .int .i64 3, .int .i64 4, .int .i64 2, .int .i64 50, .int .i64 0, .int .i64 0, .int .i64 0]) ?_ 6 _ rfl; (with_reducible repeat (first | refine blk_drewN ?_ _ | refine blk_drew ?_ | refine blk_alloc ?_ _)); refine blk_put (cs := #[.slice none 0 0, .int .i64 2, .int .i64 3, .int .i64 4, .int .i64 2, .int .i64 0, .int .i64 0, .int .i64 0, .int .i64 0]) ?_ 5 _ rfl; (with_reducible repeat (first | refine blk_drewN ?_ _ | refine blk_drew ?_ | refine blk_alloc ?_ _)); refine blk_put (cs := #[.slice none 0 0, .int .i64 2, .int .i64 3, .int .i64 4, .int .i64 0, .int .i64 0, .int .i64 0, .int .i64 0, .int .i64 0]) ?_ 4 _ rfl; (with_reducible repeat (first | refine blk_drewN ?_ _ | refine blk_drew ?_ | refine blk_alloc ?_ _)); refine blk_put (cs := #[.slice none 0 0, .int .i64 2, .int .i64 3, .int .i64 0, .int .i64 0, .int .i64 0, .int .i64 0, .int .i64 0, .int .i64 0]) ?_ 3 _ rfl; (with_reducible repeat (first | refine blk_drewN ?_ _ | refine blk_drew ?_ | refine blk_alloc ?_ _)); refine blk_put (cs := #[.slice none 0 0, .int .i64 2, .int .i64 0, .int .i64 0, .int .i64 0, .int .i64 0, .int .i64 0, .int .i64 0, .int .i64 0]) ?_ 2 _ rfl; (with_reducible repeat (first | refine blk_drewN ?_ _ | refine blk_drew ?_ | refine blk_alloc ?_ _)); refine blk_put (cs := #[.slice none 0 0, .int .i64 0, .int .i64 0, .int .i64 0, .int .i64 0, .int .i64 0, .int .i64 0, .int .i64 0, .int .i64 0]) ?_ 1 _ rfl; (with_reducible repeat (first | refine blk_drewN ?_ _ | refine blk_drew ?_ | refine blk_alloc ?_ _)); refine blk_put (cs := #[.slice none 0 0, .int .i64 0, .int .i64 0, .int .i64 0, .int .i64 0, .int .i64 0, .int .i64 0, .int .i64 0, .int .i64 0]) ?_ 0 _ rfl; (with_reducible repeat (first | refine blk_drewN ?_ _ | refine blk_drew ?_ | refine blk_alloc ?_ _)); exact BK102.out⟩, ⟨bX⟩⟩
 clear H'
 try clear p2
 try clear c4
 try clear c5
 try clear hcz5_0
 try clear hcz5_1
 try clear hcz5_2
 try clear hcz5_3
 try clear hcz5_4
 try clear hcz5_5
 try clear hcz5_6
 try clear hcz5_7
 try clear hcz5_8
 try clear hfz5_0
 try clear hfz5_1
 try clear hfz5_2
 try clear hfz5_3
 try clear hfz5_4
 try clear hfz5_5
 try clear hfz5_6
 try clear hfz5_7
 try clear hfz5_8
 obtain ⟨x7_1, x103000_1, u103000, rfl, HA, HK1, HO_103000, BK101, BK102, HB⟩ := hrel
 cases gk with
 | zero => exact absurd HA.out (by simp [apogeelaw13_Mission.l0])
 | succ k1 =>
  have H := HA.out
  clear HA
  simp only [apogeelaw13_Mission.l0] at H
  by_cases c6 : x7_1 < a0
  rw [if_pos c6] at H
  have c6b0 : decide (x7_1 < a0) = true := decide_eq_true c6
  clear c6
  obtain ⟨y103, hy103⟩ : ∃ y_ : List (S41), y_ = (([(⟨(-1000), (-1000)⟩ : S41), (⟨1000, (-1000)⟩ : S41), (⟨1000, 1000⟩ : S41), (⟨(-1000), 1000⟩ : S41)] : List (S41))) := ⟨_, rfl⟩
  replace H : (if x103000_1.length < 2513169434916 then (apogeelaw13_Mission.l0 k1 a0 (wrap64 (x7_1 + 1)) (x103000_1 ++ [(⟨y103, 1, 200, 5, 100⟩ : S30)]) 2 3 4 2 50 2 10 a0) else (none)) = some (r1, r2, r3, r4, r5, r6, r7, r8, r9) := by first | (rw [hy103]; with_reducible exact H) | (have H2_ := (Option.bind_some _ _).symm.trans H; rw [hy103]; with_reducible exact H2_) | (have H2_ := (Option.bind_some _ _).symm.trans H; with_reducible exact H2_) | with_reducible exact H | (rw [hy103]; exact H) | exact H
  have Ny103 := bA hy103
  clear hy103
  by_cases c7 : x103000_1.length < 2513169434916
  rw [if_pos c7] at H
  have LMc7 := bA c7
  clear c7
  obtain ⟨y106, hy106⟩ : ∃ y_ : List (S30), y_ = (x103000_1 ++ [(⟨y103, 1, 200, 5, 100⟩ : S30)]) := ⟨_, rfl⟩
  replace H : (apogeelaw13_Mission.l0 k1 a0 (wrap64 (x7_1 + 1)) y106 2 3 4 2 50 2 10 a0) = some (r1, r2, r3, r4, r5, r6, r7, r8, r9) := by first | (rw [hy106]; with_reducible exact H) | (have H2_ := (Option.bind_some _ _).symm.trans H; rw [hy106]; with_reducible exact H2_) | (have H2_ := (Option.bind_some _ _).symm.trans H; with_reducible exact H2_) | with_reducible exact H | (rw [hy106]; exact H) | exact H
  have Ny106 := bA hy106
  clear hy106
  have H' := bA H
  clear H
  have hnb8 := NB102_101.out
  have hnc8 := NB101_102.out
  obtain ⟨hcz9_0, hcz9_1, hcz9_2, hcz9_3, hcz9_4, hcz9_5, hcz9_6, hcz9_7, hcz9_8, hfz9_0, hfz9_1, hfz9_2, hfz9_3, hfz9_4, hfz9_5, hfz9_6, hfz9_7, hfz9_8⟩ := bc9 BK102
  rotate_left
  rw [if_neg c7] at H
  exact absurd H (by simp)
  rw [if_neg c6] at H
  have c6b0 : decide (x7_1 < a0) = false := decide_eq_false c6
  clear c6
  simp only [Option.some.injEq, Prod.mk.injEq] at H
  obtain ⟨rfl, rfl, rfl, rfl, rfl, rfl, rfl, rfl, rfl⟩ := H
  have hnb16 := NB102_101.out
  have hnc16 := NB101_102.out
  obtain ⟨hcz17_0, hcz17_1, hcz17_2, hcz17_3, hcz17_4, hcz17_5, hcz17_6, hcz17_7, hcz17_8, hfz17_0, hfz17_1, hfz17_2, hfz17_3, hfz17_4, hfz17_5, hfz17_6, hfz17_7, hfz17_8⟩ := bc9 BK102
  obtain ⟨Ao18, co18, eo18⟩ := Kd.S_slice HO_103000.out
  subst eo18
  obtain ⟨hcz19_0, hcz19_1, hcz19_2, hcz19_3, hcz19_4, hcz19_5, hcz19_6, hcz19_7, hcz19_8, hfz19_0, hfz19_1, hfz19_2, hfz19_3, hfz19_4, hfz19_5, hfz19_6, hfz19_7, hfz19_8⟩ := bc9 BK101
  rotate_left
  all_goals go_wp2_with (first | ((with_reducible refine gate_dst (N := 15) rfl ?_); refine Kd.R_lit k41 _ 41 ?hg (N := 15) ?hd (xs := ([(⟨(-1000), (-1000)⟩ : S41), (⟨1000, (-1000)⟩ : S41), (⟨1000, 1000⟩ : S41), (⟨(-1000), 1000⟩ : S41)] : List (S41))) (inner := [.int .i64 (-1000), .int .i64 (-1000), .int .i64 1000, .int .i64 (-1000), .int .i64 1000, .int .i64 1000, .int .i64 (-1000), .int .i64 1000]) (ok := fun _ => True) (okp := fun _ => True) ?hr ?hp (fun _ hk => hk) trivial (Below.refl _ _) (Nat.le_refl _) (by simp) ?_; (case hd => rfl); (case hg => rfl); (case hr => first | (go_simp; done) | (go_simp; rfl)); (case hp => exact (Reps.c2 (show Kd.M k41 _ _ _ (⟨(-1000), (-1000)⟩ : S41) [.int .i64 (-1000), .int .i64 (-1000)] from (k41_mkM _ _ _ (⟨(-1000), (-1000)⟩ : S41) )) (Reps.c2 (show Kd.M k41 _ _ _ (⟨1000, (-1000)⟩ : S41) [.int .i64 1000, .int .i64 (-1000)] from (k41_mkM _ _ _ (⟨1000, (-1000)⟩ : S41) )) (Reps.c2 (show Kd.M k41 _ _ _ (⟨1000, 1000⟩ : S41) [.int .i64 1000, .int .i64 1000] from (k41_mkM _ _ _ (⟨1000, 1000⟩ : S41) )) (Reps.c2 (show Kd.M k41 _ _ _ (⟨(-1000), 1000⟩ : S41) [.int .i64 (-1000), .int .i64 1000] from (k41_mkM _ _ _ (⟨(-1000), 1000⟩ : S41) )) (Reps.none _ _)))))); intro v104 wz0 ho11 hb hg_ hnew_; clear hg_ hnew_; (first | rw [← Ny103.out] at ho11 | (simp only [Int.reduceToNat] at ho11; rw [← Ny103.out] at ho11)); have HO105 := bA (Kd.R_lower ho11 bY); replace HO_103000 := bA (Kd.S_elder' (by (with_reducible repeat (first | apply Kd.S_alloc | apply Kd.S_drewN | apply Kd.S_drew)); exact HO_103000.out) (Kd.R_base ho11) hb); replace BK101 := bA (bB BK101 hb); replace BK102 := bA (bB BK102 hb); replace HB := bA (bS hb); clear hb ho11; obtain ⟨Aoz1, coz2, eoz3⟩ := Kd.R_slice HO105.out; subst eoz3) | ((with_reducible refine gate_builtin (b := .append) (xs := #[.tmp 10, .tmp 17]) rfl ?_); at_builtin; refine Kd.S_append k30 (w0 := w) w.heap.size rfl (.tmp 10) (.tmp 17) 22 30 (.agg #[(.slice none 0 0), (.int .i64 0), (.int .i64 0), (.int .i64 0), (.int .i64 0)]) 56 rfl Try.underlying22 info30 rfl (by decide) (by omega) u103000 x103000_1 (⟨y103, 1, 200, 5, 100⟩ : S30) [.slice Aoz1 y103.length coz2, .int .i64 1, .int .i64 200, .int .i64 5, .int .i64 100] (fun _ => True) (fun k_ => some k_ = (.slice Aoz1 y103.length coz2 : Value).ownBlock) rfl rfl ?aP (fun k_ hk_ => ((Kd.R_mono (ok' := fun k_ => ((fun _ => True)) k_ ∧ some k_ ≠ (u103000 : Value).ownBlock) (Kd.R_apart' (HO105.out) (Kd.S_typed HO_103000.out) (by decide)) (fun k_ hk => ⟨trivial, hk.2⟩))).1 k_ hk_.symm) ?aF ?aO ?aB ?aS ?aL ?_; (case aP => exact k30_mkM _ _ _ (⟨y103, 1, 200, 5, 100⟩ : S30) (Kd.R_mono (Kd.R_tight rfl (Kd.R_mono (ok' := fun k_ => ((fun _ => True)) k_ ∧ some k_ ≠ (u103000 : Value).ownBlock) (Kd.R_apart' (HO105.out) (Kd.S_typed HO_103000.out) (by decide)) (fun k_ hk => ⟨trivial, hk.2⟩))) (fun _ h_ => h_))); (case aB => exact bX); (case aF => exact (fun _ _ => trivial)); (case aO => exact (by (with_reducible repeat (first | apply Kd.S_alloc | apply Kd.S_drewN | apply Kd.S_drew)); exact Kd.S_mono HO_103000.out (fun k_ hk => ⟨trivial, fun e_ => hk.2 e_⟩))); (case aS => exact bY); (case aL => have := LMc7.out; omega); intro v107 wz4 ho hb hg hat; rw [← Ny106.out] at ho; have HO108 := bA (ho); replace BK101 := bA (blk_grown (g := gb101) (o := .cells #[.slice none 0 0, .int .i64 0, .int .i64 0, .int .i64 0, .int .i64 0, .int .i64 0, .int .i64 0, .int .i64 0, .int .i64 0] 24 (0, 0)) (bP BK101) hg (Kd.S_ne HO_103000.out BK101.out (by decide))); replace BK102 := bA (blk_grown (g := gb102) (o := .cells #[u103000, .int .i64 2, .int .i64 3, .int .i64 4, .int .i64 2, .int .i64 50, .int .i64 2, .int .i64 10, .int .i64 a0] 24 (0, 0)) (bP BK102) hg (Kd.S_ne HO_103000.out BK102.out (by decide))); replace HB := bA (hb); clear HO_103000 HO105; clear ho hb hg hat; obtain ⟨Aoz5, coz6, eoz7⟩ := Kd.S_slice HO108.out; subst eoz7; obtain ⟨hz1, hz2, hz3, hz4, hz5, hz6, hz7, hz8, hz9, hz10, hz11, hz12, hz13, hz14, hz15, hz16, hz17, hz18⟩ := bc9 BK102))
  ·go_roundg k1
   case measure => have := HK1.out; omega
   case rel => exact ⟨(wrap64 (x7_1 + 1)), (y106), (.slice Aoz5 y106.length coz6), bs, H', ⟨by have := HK1.out; omega⟩, ⟨by (with_reducible repeat (first | apply Kd.S_alloc | apply Kd.S_drewN | apply Kd.S_drew)); exact Kd.S_mono (Kd.S_far (p := ⟨gb102, 0, none⟩) (Kd.S_types HO108.out BK102.out (by decide)) (fun _ hk => hk.2) (.slice Aoz5 y106.length coz6)) (fun _ hk => trivial)⟩, ⟨by (with_reducible repeat (first | refine blk_drewN ?_ _ | refine blk_drew ?_ | refine blk_alloc ?_ _)); refine blk_far ?_ NB101_102.out _; (with_reducible repeat (first | refine blk_drewN ?_ _ | refine blk_drew ?_ | refine blk_alloc ?_ _)); exact BK101.out⟩, ⟨by (with_reducible repeat (first | refine blk_drewN ?_ _ | refine blk_drew ?_ | refine blk_alloc ?_ _)); refine blk_put (cs := #[u103000, .int .i64 2, .int .i64 3, .int .i64 4, .int .i64 2, .int .i64 50, .int .i64 2, .int .i64 10, .int .i64 a0]) ?_ 0 _ rfl; (with_reducible repeat (first | refine blk_drewN ?_ _ | refine blk_drew ?_ | refine blk_alloc ?_ _)); exact BK102.out⟩, ⟨bX⟩⟩
  refine bodyPost_ret (results_cell_row rfl _ _ gb101 24 #[.slice Ao18 x103000_1.length co18, .int .i64 2, .int .i64 3, .int .i64 4, .int .i64 2, .int .i64 50, .int .i64 2, .int .i64 10, .int .i64 a0] (0, 0) _ rfl (by (with_reducible repeat (first | refine blk_drewN ?_ _ | refine blk_drew ?_ | refine blk_alloc ?_ _)); refine blk_put (cs := #[.slice Ao18 x103000_1.length co18, .int .i64 2, .int .i64 3, .int .i64 4, .int .i64 2, .int .i64 50, .int .i64 2, .int .i64 10, .int .i64 0]) ?_ 8 _ rfl; (with_reducible repeat (first | refine blk_drewN ?_ _ | refine blk_drew ?_ | refine blk_alloc ?_ _)); refine blk_put (cs := #[.slice Ao18 x103000_1.length co18, .int .i64 2, .int .i64 3, .int .i64 4, .int .i64 2, .int .i64 50, .int .i64 2, .int .i64 0, .int .i64 0]) ?_ 7 _ rfl; (with_reducible repeat (first | refine blk_drewN ?_ _ | refine blk_drew ?_ | refine blk_alloc ?_ _)); refine blk_put (cs := #[.slice Ao18 x103000_1.length co18, .int .i64 2, .int .i64 3, .int .i64 4, .int .i64 2, .int .i64 50, .int .i64 0, .int .i64 0, .int .i64 0]) ?_ 6 _ rfl; (with_reducible repeat (first | refine blk_drewN ?_ _ | refine blk_drew ?_ | refine blk_alloc ?_ _)); refine blk_put (cs := #[.slice Ao18 x103000_1.length co18, .int .i64 2, .int .i64 3, .int .i64 4, .int .i64 2, .int .i64 0, .int .i64 0, .int .i64 0, .int .i64 0]) ?_ 5 _ rfl; (with_reducible repeat (first | refine blk_drewN ?_ _ | refine blk_drew ?_ | refine blk_alloc ?_ _)); refine blk_put (cs := #[.slice Ao18 x103000_1.length co18, .int .i64 2, .int .i64 3, .int .i64 4, .int .i64 0, .int .i64 0, .int .i64 0, .int .i64 0, .int .i64 0]) ?_ 4 _ rfl; (with_reducible repeat (first | refine blk_drewN ?_ _ | refine blk_drew ?_ | refine blk_alloc ?_ _)); refine blk_put (cs := #[.slice Ao18 x103000_1.length co18, .int .i64 2, .int .i64 3, .int .i64 0, .int .i64 0, .int .i64 0, .int .i64 0, .int .i64 0, .int .i64 0]) ?_ 3 _ rfl; (with_reducible repeat (first | refine blk_drewN ?_ _ | refine blk_drew ?_ | refine blk_alloc ?_ _)); refine blk_put (cs := #[.slice Ao18 x103000_1.length co18, .int .i64 2, .int .i64 0, .int .i64 0, .int .i64 0, .int .i64 0, .int .i64 0, .int .i64 0, .int .i64 0]) ?_ 2 _ rfl; (with_reducible repeat (first | refine blk_drewN ?_ _ | refine blk_drew ?_ | refine blk_alloc ?_ _)); refine blk_put (cs := #[.slice Ao18 x103000_1.length co18, .int .i64 0, .int .i64 0, .int .i64 0, .int .i64 0, .int .i64 0, .int .i64 0, .int .i64 0, .int .i64 0]) ?_ 1 _ rfl; (with_reducible repeat (first | refine blk_drewN ?_ _ | refine blk_drew ?_ | refine blk_alloc ?_ _)); refine blk_put (cs := #[.slice none 0 0, .int .i64 0, .int .i64 0, .int .i64 0, .int .i64 0, .int .i64 0, .int .i64 0, .int .i64 0, .int .i64 0]) ?_ 0 _ rfl; (with_reducible repeat (first | refine blk_drewN ?_ _ | refine blk_drew ?_ | refine blk_alloc ?_ _)); exact BK101.out) Try.underlying24 rfl (by kernel_rfl)) rfl ?_
  exact ⟨_, by first | rfl | (simp [errW_none, errW_some] <;> rfl) | (simp [*, errW_none, errW_some] <;> rfl), by (with_reducible repeat (first | apply Kd.S_alloc | apply Kd.S_drewN | apply Kd.S_drew)); exact Kd.S_mono (Kd.S_far (p := ⟨gb101, 8, none⟩) (Kd.S_far (p := ⟨gb101, 7, none⟩) (Kd.S_far (p := ⟨gb101, 6, none⟩) (Kd.S_far (p := ⟨gb101, 5, none⟩) (Kd.S_far (p := ⟨gb101, 4, none⟩) (Kd.S_far (p := ⟨gb101, 3, none⟩) (Kd.S_far (p := ⟨gb101, 2, none⟩) (Kd.S_far (p := ⟨gb101, 1, none⟩) (Kd.S_far (p := ⟨gb101, 0, none⟩) (Kd.S_types HO_103000.out BK101.out (by decide)) (fun _ hk => hk.2) (.slice Ao18 x103000_1.length co18)) (fun _ hk => hk.2) (.int .i64 2)) (fun _ hk => hk.2) (.int .i64 3)) (fun _ hk => hk.2) (.int .i64 4)) (fun _ hk => hk.2) (.int .i64 2)) (fun _ hk => hk.2) (.int .i64 50)) (fun _ hk => hk.2) (.int .i64 2)) (fun _ hk => hk.2) (.int .i64 10)) (fun _ hk => hk.2) (.int .i64 a0)) (fun _ hk => trivial), by repeat (first | (with_reducible first | exact HB.out | apply below_alloc | apply pw_below_drewN | apply below_drew1 | refine below_set ?_ GE101.out | refine below_set ?_ GE102.out) | exact HB.out)⟩
/-! ### slices_Clone_Point: function 56 -/
def slices_Clone_Point.f (l0 : List (S41)) : Option ((List (S41))) := (some (([] : List (S41)) : List (S41))).bind fun y109 => (if y109.length + l0.length < 8796093022208 then (some (y109 ++ l0)) else (none))
set_option maxHeartbeats 8000000 in
set_option maxRecDepth 100000 in
theorem slices_Clone_Point.calls (A0 : Option Addr) (c0 : Nat) (l0 : List (S41)) (r : List (S41)) (w : World) (hr0 : Kd.C k41 w A0 l0.length l0) (hc0 : l0.length ≤ c0) (h : slices_Clone_Point.f l0 = some r) :
  Calls Try.prog 56 #[.slice A0 l0.length c0] w fun e w' => ∃ v0_ : Value, e = .returned (v0_) ∧ Kd.R k41 41 w' w.heap.size (fun _ => True) v0_ r ∧ Below w.heap.size w w' := by
 have HR0 := bA hr0
 have HC0 := bA hc0
 clear hr0 hc0
 have HB := bA (Below.refl w.heap.size w)
 have q28 : ∀ (w : World) (a : Option Addr) (n c n' c' : Nat), (binOp .eql 28 (.slice a n c) (.slice none n' c')).run Try.prog w = .ok (.bool a.isNone) w := fun w a n c n' c' => Lib.run_eql_slice_nil w _ _ a n c n' c' Try.underlying28
 rcases A0 with _ | ad0_
 ·have hl_ : l0 = [] := List.eq_nil_of_length_eq_zero (by rcases Nat.eq_zero_or_pos l0.length with q | q; exact q; first | (obtain ⟨_, e_, _⟩ := HR0.out.2.2 q; cases e_) | (obtain ⟨A_, c_, e_, _, hF_⟩ := HO0.out; cases e_; obtain ⟨_, e2_, _⟩ := (Kd.F_now hF_).2.2 q; cases e2_))
  subst hl_
  obtain rfl : [] = r := by simpa [slices_Clone_Point.f] using h
  go_enter Try.func56, Try.ntmps56
  go_wp2
  go_ret
  exact ⟨_, rfl, by first | exact Kd.R_nil _ _ _ _ _ | exact Kd.N_nil _ _ _ _ _ | exact Kd.V_nil _ _ _ _ _, HB.out⟩
 have H : ((some (([] : List (S41)) : List (S41))).bind fun y109 => (if y109.length + l0.length < 8796093022208 then (some (y109 ++ l0)) else (none))) = some r := h
 clear h
 obtain ⟨y109, hy109⟩ : ∃ y_ : List (S41), y_ = (([] : List (S41))) := ⟨_, rfl⟩
 replace H : (if y109.length + l0.length < 8796093022208 then (some (y109 ++ l0)) else (none)) = some r := by first | (rw [hy109]; with_reducible exact H) | (have H2_ := (Option.bind_some _ _).symm.trans H; rw [hy109]; with_reducible exact H2_) | (have H2_ := (Option.bind_some _ _).symm.trans H; with_reducible exact H2_) | with_reducible exact H | (rw [hy109]; exact H) | exact H
 have Ny109 := bA hy109
 clear hy109
 by_cases c2 : y109.length + l0.length < 8796093022208
 rotate_left
 ·rw [if_neg c2] at H
  exact absurd H (by simp)
 rw [if_pos c2] at H
 have LMc2 := bA c2
 clear c2
 obtain ⟨y112, hy112⟩ : ∃ y_ : List (S41), y_ = (y109 ++ l0) := ⟨_, rfl⟩
 replace H : (some y112) = some r := by first | (rw [hy112]; with_reducible exact H) | (have H2_ := (Option.bind_some _ _).symm.trans H; rw [hy112]; with_reducible exact H2_) | (have H2_ := (Option.bind_some _ _).symm.trans H; with_reducible exact H2_) | with_reducible exact H | (rw [hy112]; exact H) | exact H
 have Ny112 := bA hy112
 clear hy112
 obtain rfl := Option.some.inj H
 go_enter Try.func56, Try.ntmps56
 go_wp2_with (first | ((with_reducible refine gate_dst (N := 5) rfl ?_); refine Kd.R_lit k41 _ 41 ?hg (N := 5) ?hd (xs := ([] : List (S41))) (inner := []) (ok := fun _ => True) (okp := fun _ => True) ?hr ?hp (fun _ hk => hk) trivial (Below.refl _ _) (Nat.le_refl _) (by simp) ?_; (case hd => rfl); (case hg => rfl); (case hr => first | (go_simp; done) | (go_simp; rfl)); (case hp => exact (Reps.none _ _)); intro v110 w3 ho4 hb hg_ hnew_; clear hg_ hnew_; (first | rw [← Ny109.out] at ho4 | (simp only [Int.reduceToNat] at ho4; rw [← Ny109.out] at ho4)); have HO111 := bA (Kd.R_lower ho4 bY); replace HB := bA (bS hb); clear hb ho4) | ((with_reducible refine gate_builtin (b := .append) (xs := #[.tmp 5, .tmp 6]) rfl ?_); at_builtin; refine Kd.R_append_rows k41 (w0 := w) w.heap.size rfl (.tmp 5) (.tmp 6) 28 41 (.agg #[(.int .i64 0), (.int .i64 0)]) 16 rfl Try.underlying28 info41 rfl (by decide) (by omega) v110 y109 l0 _ _ _ (fun _ => True) (fun _ => False) rfl rfl ?aO ?aR (fun _ _ h => h) (fun _ h => h.elim) ?aF ?aB ?aS ?aL ?_; (case aR => exact bQ HR0); (case aB => exact bX); (case aF => exact (fun _ _ => trivial)); (case aO => exact (bRr HO111)); (case aS => exact bY); (case aL => have := LMc2.out; omega); intro v113 w5 ho hb hg hat; rw [← Ny112.out] at ho; have HO114 := bA (ho); replace HB := bA (hb); clear HO111; clear ho hb hg hat))
 go_ret
 exact ⟨_, by first | rfl | (simp [errW_none, errW_some] <;> rfl) | (simp [*, errW_none, errW_some] <;> rfl), bRr HO114, by repeat (first | (with_reducible first | exact HB.out | apply below_alloc | apply pw_below_drewN | apply below_drew1) | exact HB.out)⟩
/-! ### rules_Phase: function 17 -/
def rules_Phase.f (l0_0 : List (S30)) (a0_1 : Int) (a0_2 : Int) (a0_3 : Int) (a0_4 : Int) (a0_5 : Int) (a0_6 : Int) (a0_7 : Int) (a0_8 : Int) (a1 : Int) : Option ((List (S41)) × Int × Int × Int × Int × Bool) := if a1 < 0 then (some (([] : List (S41)), 0, 0, 0, 0, false)) else (if a1 ≥ (l0_0.length : Int) then (some (([] : List (S41)), 0, 0, 0, 0, false)) else (if 0 ≤ a1 then (if a1 < (l0_0.length : Int) then ((slices_Clone_Point.f ((rd_T30 l0_0 a1).f0)).bind fun t118 => (some (t118, (rd_T30 l0_0 a1).f1, (rd_T30 l0_0 a1).f2, (rd_T30 l0_0 a1).f3, (rd_T30 l0_0 a1).f4, true))) else (none)) else (none)))
set_option maxHeartbeats 8000000 in
set_option maxRecDepth 100000 in
theorem rules_Phase.calls (A0_0 : Option Addr) (c0_0 : Nat) (l0_0 : List (S30)) (a0_1 : Int) (a0_2 : Int) (a0_3 : Int) (a0_4 : Int) (a0_5 : Int) (a0_6 : Int) (a0_7 : Int) (a0_8 : Int) (a1 : Int) (r1 : List (S41)) (r2 : Int) (r3 : Int) (r4 : Int) (r5 : Int) (r6 : Bool) (w : World) (hr0_0 : Kd.C k30 w A0_0 l0_0.length l0_0) (hc0_0 : l0_0.length ≤ c0_0) (h : rules_Phase.f l0_0 a0_1 a0_2 a0_3 a0_4 a0_5 a0_6 a0_7 a0_8 a1 = some (r1, r2, r3, r4, r5, r6)) :
  Calls Try.prog 17 #[.agg #[.slice A0_0 l0_0.length c0_0, .int .i64 a0_1, .int .i64 a0_2, .int .i64 a0_3, .int .i64 a0_4, .int .i64 a0_5, .int .i64 a0_6, .int .i64 a0_7, .int .i64 a0_8], .int .i64 a1] w fun e w' => ∃ v0_ : Value, e = .returned (.tuple #[.agg #[v0_, .int .i64 r2, .int .i64 r3, .int .i64 r4, .int .i64 r5], .bool r6]) ∧ Kd.R k41 41 w' w.heap.size (fun _ => True) v0_ r1 ∧ Below w.heap.size w w' := by
 have hu24 := Try.underlying24
 have hu30 := Try.underlying30
 have HR0_0 := bA hr0_0
 have HC0_0 := bA hc0_0
 clear hr0_0 hc0_0
 have HB := bA (Below.refl w.heap.size w)
 have H : (if a1 < 0 then (some (([] : List (S41)), 0, 0, 0, 0, false)) else (if a1 ≥ (l0_0.length : Int) then (some (([] : List (S41)), 0, 0, 0, 0, false)) else (if 0 ≤ a1 then (if a1 < (l0_0.length : Int) then ((slices_Clone_Point.f ((rd_T30 l0_0 a1).f0)).bind fun t118 => (some (t118, (rd_T30 l0_0 a1).f1, (rd_T30 l0_0 a1).f2, (rd_T30 l0_0 a1).f3, (rd_T30 l0_0 a1).f4, true))) else (none)) else (none)))) = some (r1, r2, r3, r4, r5, r6) := h
 clear h
 by_cases c3 : a1 < 0
 ·rw [if_pos c3] at H
  have c3b0 : decide (a1 < 0) = true := decide_eq_true c3
  clear c3
  simp only [Option.some.injEq, Prod.mk.injEq] at H
  obtain ⟨rfl, rfl, rfl, rfl, rfl, rfl⟩ := H
  go_enter Try.func17, Try.ntmps17
  go_wp2_with (first | ((with_reducible refine gate_dst (N := 2) rfl ?_); (try (refine gate_guard (by rfl) ?_; dsimp only)); refine bE (N := 2) (cs := #[.slice A0_0 l0_0.length c0_0, .int .i64 a0_1, .int .i64 a0_2, .int .i64 a0_3, .int .i64 a0_4, .int .i64 a0_5, .int .i64 a0_6, .int .i64 a0_7, .int .i64 a0_8]) (t := 24) ?_; intro gb115 hg w4 hbox hb; have BK115 := bA (hbox); have GW115 := bA (bZ hg); have GE115 := bA (bZ hg); replace HB := bA (bS hb); clear hb hbox hg) | ((with_reducible refine gate_dst (N := 4) rfl ?_); (try (refine gate_guard (by rfl) ?_; dsimp only)); refine bE (N := 4) (cs := #[.slice none 0 0, .int .i64 0, .int .i64 0, .int .i64 0, .int .i64 0]) (t := 30) ?_; intro gb116 hg w5 hbox hb; have BK116 := bA (hbox); have GW116 := bA (bZ hg); have GE116 := bA (bZ hg); have NB115_116 := bA (bL BK115 hg); have NB116_115 := bA (bG BK115 hg); replace BK115 := bA (bB BK115 hb); replace HB := bA (bS hb); clear hb hbox hg; have hnb6 := NB116_115.out; have hnc6 := NB115_116.out; obtain ⟨hcz7_0, hcz7_1, hcz7_2, hcz7_3, hcz7_4, hfz7_0, hfz7_1, hfz7_2, hfz7_3, hfz7_4⟩ := bc5 BK116))
  refine bodyPost_ret (results_ct rfl _ _ gb116 30 #[.slice none 0 0, .int .i64 0, .int .i64 0, .int .i64 0, .int .i64 0] (0, 0) _ rfl (by (with_reducible repeat (first | refine blk_drewN ?_ _ | refine blk_drew ?_ | refine blk_alloc ?_ _)); refine blk_put (cs := #[.slice none 0 0, .int .i64 0, .int .i64 0, .int .i64 0, .int .i64 0]) ?_ 4 _ rfl; (with_reducible repeat (first | refine blk_drewN ?_ _ | refine blk_drew ?_ | refine blk_alloc ?_ _)); refine blk_put (cs := #[.slice none 0 0, .int .i64 0, .int .i64 0, .int .i64 0, .int .i64 0]) ?_ 3 _ rfl; (with_reducible repeat (first | refine blk_drewN ?_ _ | refine blk_drew ?_ | refine blk_alloc ?_ _)); refine blk_put (cs := #[.slice none 0 0, .int .i64 0, .int .i64 0, .int .i64 0, .int .i64 0]) ?_ 2 _ rfl; (with_reducible repeat (first | refine blk_drewN ?_ _ | refine blk_drew ?_ | refine blk_alloc ?_ _)); refine blk_put (cs := #[.slice none 0 0, .int .i64 0, .int .i64 0, .int .i64 0, .int .i64 0]) ?_ 1 _ rfl; (with_reducible repeat (first | refine blk_drewN ?_ _ | refine blk_drew ?_ | refine blk_alloc ?_ _)); refine blk_put (cs := #[.slice none 0 0, .int .i64 0, .int .i64 0, .int .i64 0, .int .i64 0]) ?_ 0 _ rfl; (with_reducible repeat (first | refine blk_drewN ?_ _ | refine blk_drew ?_ | refine blk_alloc ?_ _)); exact BK116.out) Try.underlying30 rfl (by kernel_rfl)) rfl ?_
  exact ⟨_, by first | rfl | (simp [errW_none, errW_some] <;> rfl) | (simp [*, errW_none, errW_some] <;> rfl), by first | exact Kd.R_nil _ _ _ _ _ | exact Kd.N_nil _ _ _ _ _ | exact Kd.V_nil _ _ _ _ _ | exact Kd.Q_nil _ _ _ _ _ | exact Kd.S_nil _ _ _ _ _, by repeat (first | (with_reducible first | exact HB.out | apply below_alloc | apply pw_below_drewN | apply below_drew1 | refine below_set ?_ GE115.out | refine below_set ?_ GE116.out) | exact HB.out)⟩
 rw [if_neg c3] at H
 have c3b0 : decide (a1 < 0) = false := decide_eq_false c3
 clear c3
 by_cases c8 : a1 ≥ (l0_0.length : Int)
 ·rw [if_pos c8] at H
  have c8b0 : decide ((l0_0.length : Int) ≤ a1) = true := decide_eq_true c8
  clear c8
  simp only [Option.some.injEq, Prod.mk.injEq] at H
  obtain ⟨rfl, rfl, rfl, rfl, rfl, rfl⟩ := H
  go_enter Try.func17, Try.ntmps17
  go_wp2_with (first | ((with_reducible refine gate_dst (N := 2) rfl ?_); (try (refine gate_guard (by rfl) ?_; dsimp only)); refine bE (N := 2) (cs := #[.slice A0_0 l0_0.length c0_0, .int .i64 a0_1, .int .i64 a0_2, .int .i64 a0_3, .int .i64 a0_4, .int .i64 a0_5, .int .i64 a0_6, .int .i64 a0_7, .int .i64 a0_8]) (t := 24) ?_; intro gb115 hg w9 hbox hb; have BK115 := bA (hbox); have GW115 := bA (bZ hg); have GE115 := bA (bZ hg); replace HB := bA (bS hb); clear hb hbox hg) | ((with_reducible refine gate_dst (N := 4) rfl ?_); (try (refine gate_guard (by rfl) ?_; dsimp only)); refine bE (N := 4) (cs := #[.slice none 0 0, .int .i64 0, .int .i64 0, .int .i64 0, .int .i64 0]) (t := 30) ?_; intro gb116 hg w10 hbox hb; have BK116 := bA (hbox); have GW116 := bA (bZ hg); have GE116 := bA (bZ hg); have NB115_116 := bA (bL BK115 hg); have NB116_115 := bA (bG BK115 hg); replace BK115 := bA (bB BK115 hb); replace HB := bA (bS hb); clear hb hbox hg; have hnb11 := NB115_116.out; have hnc11 := NB116_115.out; obtain ⟨hcz12_0, hcz12_1, hcz12_2, hcz12_3, hcz12_4, hcz12_5, hcz12_6, hcz12_7, hcz12_8, hfz12_0, hfz12_1, hfz12_2, hfz12_3, hfz12_4, hfz12_5, hfz12_6, hfz12_7, hfz12_8⟩ := bc9 BK115; obtain ⟨hcz13_0, hcz13_1, hcz13_2, hcz13_3, hcz13_4, hfz13_0, hfz13_1, hfz13_2, hfz13_3, hfz13_4⟩ := bc5 BK116))
  refine bodyPost_ret (results_ct rfl _ _ gb116 30 #[.slice none 0 0, .int .i64 0, .int .i64 0, .int .i64 0, .int .i64 0] (0, 0) _ rfl (by (with_reducible repeat (first | refine blk_drewN ?_ _ | refine blk_drew ?_ | refine blk_alloc ?_ _)); refine blk_put (cs := #[.slice none 0 0, .int .i64 0, .int .i64 0, .int .i64 0, .int .i64 0]) ?_ 4 _ rfl; (with_reducible repeat (first | refine blk_drewN ?_ _ | refine blk_drew ?_ | refine blk_alloc ?_ _)); refine blk_put (cs := #[.slice none 0 0, .int .i64 0, .int .i64 0, .int .i64 0, .int .i64 0]) ?_ 3 _ rfl; (with_reducible repeat (first | refine blk_drewN ?_ _ | refine blk_drew ?_ | refine blk_alloc ?_ _)); refine blk_put (cs := #[.slice none 0 0, .int .i64 0, .int .i64 0, .int .i64 0, .int .i64 0]) ?_ 2 _ rfl; (with_reducible repeat (first | refine blk_drewN ?_ _ | refine blk_drew ?_ | refine blk_alloc ?_ _)); refine blk_put (cs := #[.slice none 0 0, .int .i64 0, .int .i64 0, .int .i64 0, .int .i64 0]) ?_ 1 _ rfl; (with_reducible repeat (first | refine blk_drewN ?_ _ | refine blk_drew ?_ | refine blk_alloc ?_ _)); refine blk_put (cs := #[.slice none 0 0, .int .i64 0, .int .i64 0, .int .i64 0, .int .i64 0]) ?_ 0 _ rfl; (with_reducible repeat (first | refine blk_drewN ?_ _ | refine blk_drew ?_ | refine blk_alloc ?_ _)); exact BK116.out) Try.underlying30 rfl (by kernel_rfl)) rfl ?_
  exact ⟨_, by first | rfl | (simp [errW_none, errW_some] <;> rfl) | (simp [*, errW_none, errW_some] <;> rfl), by first | exact Kd.R_nil _ _ _ _ _ | exact Kd.N_nil _ _ _ _ _ | exact Kd.V_nil _ _ _ _ _ | exact Kd.Q_nil _ _ _ _ _ | exact Kd.S_nil _ _ _ _ _, by repeat (first | (with_reducible first | exact HB.out | apply below_alloc | apply pw_below_drewN | apply below_drew1 | refine below_set ?_ GE115.out | refine below_set ?_ GE116.out) | exact HB.out)⟩
 rw [if_neg c8] at H
 have c8b0 : decide ((l0_0.length : Int) ≤ a1) = false := decide_eq_false c8
 clear c8
 by_cases c14 : 0 ≤ a1
 rotate_left
 ·rw [if_neg c14] at H
  exact absurd H (by simp)
 rw [if_pos c14] at H
 have c14b0 : decide (0 ≤ a1) = true := decide_eq_true c14
 clear c14
 by_cases c15 : a1 < (l0_0.length : Int)
 rotate_left
 ·rw [if_neg c15] at H
  exact absurd H (by simp)
 rw [if_pos c15] at H
 have c15b0 : decide (a1 < (l0_0.length : Int)) = true := decide_eq_true c15
 clear c15
 replace H := Option.bind_eq_some_iff.mp H
 obtain ⟨t118, A160, H⟩ := H
 have A16 := bA A160
 clear A160
 simp only [Option.some.injEq, Prod.mk.injEq] at H
 obtain ⟨rfl, rfl, rfl, rfl, rfl, rfl⟩ := H
 go_enter Try.func17, Try.ntmps17
 go_wp2_with (first | ((with_reducible refine gate_dst (N := 2) rfl ?_); (try (refine gate_guard (by rfl) ?_; dsimp only)); refine bE (N := 2) (cs := #[.slice A0_0 l0_0.length c0_0, .int .i64 a0_1, .int .i64 a0_2, .int .i64 a0_3, .int .i64 a0_4, .int .i64 a0_5, .int .i64 a0_6, .int .i64 a0_7, .int .i64 a0_8]) (t := 24) ?_; intro gb115 hg w17 hbox hb; have BK115 := bA (hbox); have GW115 := bA (bZ hg); have GE115 := bA (bZ hg); replace HB := bA (bS hb); clear hb hbox hg) | ((with_reducible refine gate_dst (N := 4) rfl ?_); (try (refine gate_guard (by rfl) ?_; dsimp only)); refine bE (N := 4) (cs := #[.slice none 0 0, .int .i64 0, .int .i64 0, .int .i64 0, .int .i64 0]) (t := 30) ?_; intro gb116 hg w18 hbox hb; have BK116 := bA (hbox); have GW116 := bA (bZ hg); have GE116 := bA (bZ hg); have NB115_116 := bA (bL BK115 hg); have NB116_115 := bA (bG BK115 hg); replace BK115 := bA (bB BK115 hb); replace HB := bA (bS hb); clear hb hbox hg; have hnb19 := NB115_116.out; have hnc19 := NB116_115.out; obtain ⟨hcz20_0, hcz20_1, hcz20_2, hcz20_3, hcz20_4, hcz20_5, hcz20_6, hcz20_7, hcz20_8, hfz20_0, hfz20_1, hfz20_2, hfz20_3, hfz20_4, hfz20_5, hfz20_6, hfz20_7, hfz20_8⟩ := bc9 BK115; have p117 : 0 ≤ (a1 : Int) := bo; have q117 : a1 < (l0_0.length : Int) := bo; obtain ⟨ad117, A117_0, c117_0, e117, hx117_0, hx117_1, hx117_2, hx117_3, hx117_4, hl117_0, hi117_0⟩ := at_T30 HR0_0.out a1 p117 q117; cases e117; replace hx117_0 := bK hx117_0; replace hx117_1 := bK hx117_1; replace hx117_2 := bK hx117_2; replace hx117_3 := bK hx117_3; replace hx117_4 := bK hx117_4; have HR117_0 := bA hi117_0; have HC117_0 := bA hl117_0; clear hi117_0 hl117_0; replace p117 := eq_true p117; replace q117 := eq_true q117; obtain ⟨hcz21_0, hcz21_1, hcz21_2, hcz21_3, hcz21_4, hfz21_0, hfz21_1, hfz21_2, hfz21_3, hfz21_4⟩ := bc5 BK116) | ((first | ((with_reducible refine gate_callee (f := 56) rfl ?_); refine bC (some 23) Try.func56 #[.slice A117_0 ((rd_T30 l0_0 a1).f0).length c117_0] ?_) | go_at_call 56); (with_reducible refine (slices_Clone_Point.calls _ _ ((rd_T30 l0_0 a1).f0) t118 _ ?side1 ?side2 A16.out).mono ?_); (case side1 => exact Kd.C_below HR117_0.out bX); (case side2 => exact HC117_0.out); rintro e w22 ⟨v119, rfl, ho0, hb⟩; (first | refine ⟨_, rfl, ?_⟩ | skip); have HO120 := bA (Kd.R_lower ho0 bY); replace BK115 := bA (blk_below (g := gb115) (o := .cells #[.slice (some ad117) l0_0.length c0_0, .int .i64 a0_1, .int .i64 a0_2, .int .i64 a0_3, .int .i64 a0_4, .int .i64 a0_5, .int .i64 a0_6, .int .i64 a0_7, .int .i64 a0_8] 24 (0, 0)) (by (repeat ((with_reducible repeat (first | refine blk_drewN ?_ _ | refine blk_drew ?_ | refine blk_alloc ?_ _)); refine blk_far ?_ NB115_116.out _)); (with_reducible repeat (first | refine blk_drewN ?_ _ | refine blk_drew ?_ | refine blk_alloc ?_ _)); exact BK115.out) hb); replace BK116 := bA (blk_below (g := gb116) (o := .cells #[.slice A117_0 ((rd_T30 l0_0 a1).f0).length c117_0, .int .i64 ((rd_T30 l0_0 a1).f1), .int .i64 ((rd_T30 l0_0 a1).f2), .int .i64 ((rd_T30 l0_0 a1).f3), .int .i64 ((rd_T30 l0_0 a1).f4)] 30 (0, 0)) (by (with_reducible repeat (first | refine blk_drewN ?_ _ | refine blk_drew ?_ | refine blk_alloc ?_ _)); refine blk_put (cs := #[.slice A117_0 ((rd_T30 l0_0 a1).f0).length c117_0, .int .i64 ((rd_T30 l0_0 a1).f1), .int .i64 ((rd_T30 l0_0 a1).f2), .int .i64 ((rd_T30 l0_0 a1).f3), .int .i64 0]) ?_ 4 _ rfl; (with_reducible repeat (first | refine blk_drewN ?_ _ | refine blk_drew ?_ | refine blk_alloc ?_ _)); refine blk_put (cs := #[.slice A117_0 ((rd_T30 l0_0 a1).f0).length c117_0, .int .i64 ((rd_T30 l0_0 a1).f1), .int .i64 ((rd_T30 l0_0 a1).f2), .int .i64 0, .int .i64 0]) ?_ 3 _ rfl; (with_reducible repeat (first | refine blk_drewN ?_ _ | refine blk_drew ?_ | refine blk_alloc ?_ _)); refine blk_put (cs := #[.slice A117_0 ((rd_T30 l0_0 a1).f0).length c117_0, .int .i64 ((rd_T30 l0_0 a1).f1), .int .i64 0, .int .i64 0, .int .i64 0]) ?_ 2 _ rfl; (with_reducible repeat (first | refine blk_drewN ?_ _ | refine blk_drew ?_ | refine blk_alloc ?_ _)); refine blk_put (cs := #[.slice A117_0 ((rd_T30 l0_0 a1).f0).length c117_0, .int .i64 0, .int .i64 0, .int .i64 0, .int .i64 0]) ?_ 1 _ rfl; (with_reducible repeat (first | refine blk_drewN ?_ _ | refine blk_drew ?_ | refine blk_alloc ?_ _)); refine blk_put (cs := #[.slice none 0 0, .int .i64 0, .int .i64 0, .int .i64 0, .int .i64 0]) ?_ 0 _ rfl; (with_reducible repeat (first | refine blk_drewN ?_ _ | refine blk_drew ?_ | refine blk_alloc ?_ _)); exact BK116.out) hb); replace HB := bA (bS hb); (try clear hb); (try clear ho0); obtain ⟨Ao23, co23, eo23⟩ := Kd.R_slice HO120.out; subst eo23; obtain ⟨hcz24_0, hcz24_1, hcz24_2, hcz24_3, hcz24_4, hfz24_0, hfz24_1, hfz24_2, hfz24_3, hfz24_4⟩ := bc5 BK116))
 refine bodyPost_ret (results_ct rfl _ _ gb116 30 #[.slice Ao23 t118.length co23, .int .i64 ((rd_T30 l0_0 a1).f1), .int .i64 ((rd_T30 l0_0 a1).f2), .int .i64 ((rd_T30 l0_0 a1).f3), .int .i64 ((rd_T30 l0_0 a1).f4)] (0, 0) _ rfl (by (with_reducible repeat (first | refine blk_drewN ?_ _ | refine blk_drew ?_ | refine blk_alloc ?_ _)); refine blk_put (cs := #[.slice Ao23 t118.length co23, .int .i64 ((rd_T30 l0_0 a1).f1), .int .i64 ((rd_T30 l0_0 a1).f2), .int .i64 ((rd_T30 l0_0 a1).f3), .int .i64 ((rd_T30 l0_0 a1).f4)]) ?_ 4 _ rfl; (with_reducible repeat (first | refine blk_drewN ?_ _ | refine blk_drew ?_ | refine blk_alloc ?_ _)); refine blk_put (cs := #[.slice Ao23 t118.length co23, .int .i64 ((rd_T30 l0_0 a1).f1), .int .i64 ((rd_T30 l0_0 a1).f2), .int .i64 ((rd_T30 l0_0 a1).f3), .int .i64 ((rd_T30 l0_0 a1).f4)]) ?_ 3 _ rfl; (with_reducible repeat (first | refine blk_drewN ?_ _ | refine blk_drew ?_ | refine blk_alloc ?_ _)); refine blk_put (cs := #[.slice Ao23 t118.length co23, .int .i64 ((rd_T30 l0_0 a1).f1), .int .i64 ((rd_T30 l0_0 a1).f2), .int .i64 ((rd_T30 l0_0 a1).f3), .int .i64 ((rd_T30 l0_0 a1).f4)]) ?_ 2 _ rfl; (with_reducible repeat (first | refine blk_drewN ?_ _ | refine blk_drew ?_ | refine blk_alloc ?_ _)); refine blk_put (cs := #[.slice Ao23 t118.length co23, .int .i64 ((rd_T30 l0_0 a1).f1), .int .i64 ((rd_T30 l0_0 a1).f2), .int .i64 ((rd_T30 l0_0 a1).f3), .int .i64 ((rd_T30 l0_0 a1).f4)]) ?_ 1 _ rfl; (with_reducible repeat (first | refine blk_drewN ?_ _ | refine blk_drew ?_ | refine blk_alloc ?_ _)); refine blk_put (cs := #[.slice Ao23 t118.length co23, .int .i64 ((rd_T30 l0_0 a1).f1), .int .i64 ((rd_T30 l0_0 a1).f2), .int .i64 ((rd_T30 l0_0 a1).f3), .int .i64 ((rd_T30 l0_0 a1).f4)]) ?_ 0 _ rfl; (with_reducible repeat (first | refine blk_drewN ?_ _ | refine blk_drew ?_ | refine blk_alloc ?_ _)); refine blk_put (cs := #[.slice A117_0 ((rd_T30 l0_0 a1).f0).length c117_0, .int .i64 ((rd_T30 l0_0 a1).f1), .int .i64 ((rd_T30 l0_0 a1).f2), .int .i64 ((rd_T30 l0_0 a1).f3), .int .i64 ((rd_T30 l0_0 a1).f4)]) ?_ 0 _ rfl; (with_reducible repeat (first | refine blk_drewN ?_ _ | refine blk_drew ?_ | refine blk_alloc ?_ _)); exact BK116.out) Try.underlying30 rfl (by kernel_rfl)) rfl ?_
 exact ⟨_, by first | rfl | (simp [errW_none, errW_some] <;> rfl) | (simp [*, errW_none, errW_some] <;> rfl), by (with_reducible repeat (first | apply Kd.R_alloc | apply Kd.R_drewN | apply Kd.R_drew)); exact Kd.R_mono (Kd.R_far (p := ⟨gb116, 4, none⟩) (Kd.R_far (p := ⟨gb116, 3, none⟩) (Kd.R_far (p := ⟨gb116, 2, none⟩) (Kd.R_far (p := ⟨gb116, 1, none⟩) (Kd.R_far (p := ⟨gb116, 0, none⟩) (Kd.R_far (p := ⟨gb116, 0, none⟩) (Kd.R_types HO120.out BK116.out (by decide)) (fun _ hk => hk.2) (.slice Ao23 t118.length co23)) (fun _ hk => hk.2) (.slice Ao23 t118.length co23)) (fun _ hk => hk.2) (.int .i64 ((rd_T30 l0_0 a1).f1))) (fun _ hk => hk.2) (.int .i64 ((rd_T30 l0_0 a1).f2))) (fun _ hk => hk.2) (.int .i64 ((rd_T30 l0_0 a1).f3))) (fun _ hk => hk.2) (.int .i64 ((rd_T30 l0_0 a1).f4))) (fun _ hk => trivial), by repeat (first | (with_reducible first | exact HB.out | apply below_alloc | apply pw_below_drewN | apply below_drew1 | refine below_set ?_ GE115.out | refine below_set ?_ GE116.out) | exact HB.out)⟩

/-! ### slices_Clone_Phase: function 62 -/
def slices_Clone_Phase.f (l0 : List (S30)) : Option ((List (S30))) := (some (([] : List (S30)) : List (S30))).bind fun y121 => (if y121.length + l0.length < 2513169434916 then (some (y121 ++ l0)) else (none))
set_option maxHeartbeats 8000000 in
set_option maxRecDepth 100000 in
theorem slices_Clone_Phase.calls (P0_ : Nat → Prop) (A0 : Option Addr) (c0 : Nat) (l0 : List (S30)) (r : List (S30)) (w : World) (hs0 : Kd.V k30 30 w w.heap.size (fun k_ => P0_ k_) (.slice A0 l0.length c0) l0) (h : slices_Clone_Phase.f l0 = some r) :
  Calls Try.prog 62 #[.slice A0 l0.length c0] w fun e w' => ∃ v0_ : Value, e = .returned (v0_) ∧ Kd.N k30 30 w' w.heap.size (fun k_ => (P0_ k_ ∨ w.heap.size ≤ k_)) v0_ r ∧ Below w.heap.size w w' := by
 have HO0 := bA (show Kd.V k30 30 w w.heap.size (fun k_ => (P0_ k_ ∨ w.heap.size ≤ k_)) (.slice A0 l0.length c0) l0 from Kd.V_mono hs0 (fun k_ hk => .inl hk))
 have HB := bA (Below.refl w.heap.size w)
 have q22 : ∀ (w : World) (a : Option Addr) (n c n' c' : Nat), (binOp .eql 22 (.slice a n c) (.slice none n' c')).run Try.prog w = .ok (.bool a.isNone) w := fun w a n c n' c' => Lib.run_eql_slice_nil w _ _ a n c n' c' Try.underlying22
 rcases A0 with _ | ad0_
 ·have hl_ : l0 = [] := List.eq_nil_of_length_eq_zero (by rcases Nat.eq_zero_or_pos l0.length with q | q; exact q; first | (obtain ⟨_, e_, _⟩ := HR0.out.2.2 q; cases e_) | (obtain ⟨A_, c_, e_, _, hF_⟩ := HO0.out; cases e_; obtain ⟨_, e2_, _⟩ := (Kd.F_now hF_).2.2 q; cases e2_))
  subst hl_
  obtain rfl : [] = r := by simpa [slices_Clone_Phase.f] using h
  go_enter Try.func62, Try.ntmps62
  go_wp2
  go_ret
  exact ⟨_, rfl, by first | exact Kd.R_nil _ _ _ _ _ | exact Kd.N_nil _ _ _ _ _ | exact Kd.V_nil _ _ _ _ _, HB.out⟩
 have H : ((some (([] : List (S30)) : List (S30))).bind fun y121 => (if y121.length + l0.length < 2513169434916 then (some (y121 ++ l0)) else (none))) = some r := h
 clear h
 obtain ⟨y121, hy121⟩ : ∃ y_ : List (S30), y_ = (([] : List (S30))) := ⟨_, rfl⟩
 replace H : (if y121.length + l0.length < 2513169434916 then (some (y121 ++ l0)) else (none)) = some r := by first | (rw [hy121]; with_reducible exact H) | (have H2_ := (Option.bind_some _ _).symm.trans H; rw [hy121]; with_reducible exact H2_) | (have H2_ := (Option.bind_some _ _).symm.trans H; with_reducible exact H2_) | with_reducible exact H | (rw [hy121]; exact H) | exact H
 have Ny121 := bA hy121
 clear hy121
 by_cases c2 : y121.length + l0.length < 2513169434916
 rotate_left
 ·rw [if_neg c2] at H
  exact absurd H (by simp)
 rw [if_pos c2] at H
 have LMc2 := bA c2
 clear c2
 obtain ⟨y124, hy124⟩ : ∃ y_ : List (S30), y_ = (y121 ++ l0) := ⟨_, rfl⟩
 replace H : (some y124) = some r := by first | (rw [hy124]; with_reducible exact H) | (have H2_ := (Option.bind_some _ _).symm.trans H; rw [hy124]; with_reducible exact H2_) | (have H2_ := (Option.bind_some _ _).symm.trans H; with_reducible exact H2_) | with_reducible exact H | (rw [hy124]; exact H) | exact H
 have Ny124 := bA hy124
 clear hy124
 obtain rfl := Option.some.inj H
 go_enter Try.func62, Try.ntmps62
 go_wp2_with (first | ((with_reducible refine gate_dst (N := 5) rfl ?_); refine Kd.N_lit k30 _ 30 ?hg (N' := 5) ?hd (xs := ([] : List (S30))) (inner := []) (ok := (fun k_ => (P0_ k_ ∨ w.heap.size ≤ k_))) (okp := (fun k_ => (P0_ k_ ∨ w.heap.size ≤ k_))) ?hr ?hp (fun _ hk => hk) ((show ∀ k_, w.heap.size ≤ k_ → (fun k_ => (P0_ k_ ∨ w.heap.size ≤ k_)) k_ from fun k_ hk => (.inr (Nat.le_trans bY hk))) _ (Nat.le_refl _)) (Below.refl _ _) (Nat.le_refl _) (by simp) ?_; (case hd => rfl); (case hg => rfl); (case hr => first | (go_simp; done) | (go_simp; rfl)); (case hp => exact (Reps.none _ _)); intro v122 w3 ho4 hb hg_ hnew_; clear hg_ hnew_; (first | rw [← Ny121.out] at ho4 | (simp only [Int.reduceToNat] at ho4; rw [← Ny121.out] at ho4)); have HO123 := bA (Kd.N_lower ho4 bY); replace HO0 := bA (Kd.V_elder' (by (with_reducible repeat (first | apply Kd.V_alloc | apply Kd.V_drewN | apply Kd.V_drew)); exact HO0.out) (Kd.N_base ho4) hb); replace HB := bA (bS hb); clear hb ho4) | ((with_reducible refine gate_builtin (b := .append) (xs := #[.tmp 5, .tmp 6]) rfl ?_); at_builtin; refine Kd.N_append_rows k30 (w0 := w) w.heap.size rfl (.tmp 5) (.tmp 6) 22 30 (.agg #[(.slice none 0 0), (.int .i64 0), (.int .i64 0), (.int .i64 0), (.int .i64 0)]) 56 rfl Try.underlying22 info30 rfl (by decide) (by omega) v122 y121 l0 _ _ _ (fun k_ => (P0_ k_ ∨ w.heap.size ≤ k_)) (fun k_ => ((fun k_ => (P0_ k_ ∨ w.heap.size ≤ k_))) k_ ∧ some k_ ≠ (v122 : Value).ownBlock) rfl rfl ?aO ?aR (fun _ hk => hk) ?aF ?aB ?aS ?aL ?_; (case aR => exact (by skip; exact Kd.V_F (Kd.V_mono (ok' := (fun k_ => ((fun k_ => (P0_ k_ ∨ w.heap.size ≤ k_))) k_ ∧ some k_ ≠ (v122 : Value).ownBlock)) (HO0.out) (fun k_ hk => ⟨hk.1, hk.2⟩)))); (case aB => exact bX); (case aF => exact (fun k_ hk => (.inr (Nat.le_trans bY hk)))); (case aO => exact (bNr HO123)); (case aS => exact bY); (case aL => have := LMc2.out; omega); intro v125 w5 ho hb hg hat; rw [← Ny124.out] at ho; have HO126 := bA (ho); replace HO0 := bA (Kd.V_afterv (ok := (fun k_ => (P0_ k_ ∨ w.heap.size ≤ k_))) (by (with_reducible repeat (first | apply Kd.V_alloc | apply Kd.V_drewN | apply Kd.V_drew)); exact HO0.out) hg hat); replace HB := bA (hb); clear HO123; clear ho hb hg hat))
 go_ret
 exact ⟨_, by first | rfl | (simp [errW_none, errW_some] <;> rfl) | (simp [*, errW_none, errW_some] <;> rfl), bNr HO126, by repeat (first | (with_reducible first | exact HB.out | apply below_alloc | apply pw_below_drewN | apply below_drew1) | exact HB.out)⟩
/-! ### rules_Copy: function 24 -/
def rules_Copy.l0 : Nat → Int → Int → List (S30) → Int → Int → Int → Int → Int → Int → Int → Int → Option ((List (S30)) × Int × Int × Int × Int × Int × Int × Int × Int)
 | 0, _, _, _, _, _, _, _, _, _, _, _ => none
 | k + 1, x10, x11, x128000, x128001, x128002, x128003, x128004, x128005, x128006, x128007, x128008 => if x11 < x10 then (if 0 ≤ x11 then (if x11 < (x128000.length : Int) then ((slices_Clone_Point.f ((rd_T30 x128000 x11).f0)).bind fun t133 => (rules_Copy.l0 k x10 (wrap64 (x11 + 1)) (x128000.set (x11 : Int).toNat (⟨t133, (rd_T30 x128000 x11).f1, (rd_T30 x128000 x11).f2, (rd_T30 x128000 x11).f3, (rd_T30 x128000 x11).f4⟩ : S30)) x128001 x128002 x128003 x128004 x128005 x128006 x128007 x128008)) else (none)) else (none)) else (some (x128000, x128001, x128002, x128003, x128004, x128005, x128006, x128007, x128008))
def rules_Copy.f (k : Nat) (l0_0 : List (S30)) (a0_1 : Int) (a0_2 : Int) (a0_3 : Int) (a0_4 : Int) (a0_5 : Int) (a0_6 : Int) (a0_7 : Int) (a0_8 : Int) : Option ((List (S30)) × Int × Int × Int × Int × Int × Int × Int × Int) := (slices_Clone_Phase.f l0_0).bind fun t129 => (rules_Copy.l0 k (t129.length : Int) 0 t129 a0_1 a0_2 a0_3 a0_4 a0_5 a0_6 a0_7 a0_8)
theorem rules_Copy.mono_l : ∀ k, (∀ y0 y1 y2 y3 y4 y5 y6 y7 y8 y9 y10, LeO (rules_Copy.l0 k y0 y1 y2 y3 y4 y5 y6 y7 y8 y9 y10) (rules_Copy.l0 (k + 1) y0 y1 y2 y3 y4 y5 y6 y7 y8 y9 y10))
 | 0 => fun _ _ _ _ _ _ _ _ _ _ _ r h => by simp [rules_Copy.l0] at h
 | k + 1 => by
  have ih0 := rules_Copy.mono_l k
  ·intro y0 y1 y2 y3 y4 y5 y6 y7 y8 y9 y10
   unfold rules_Copy.l0
   exact bMo
theorem rules_Copy.mono : ∀ a0 a1 a2 a3 a4 a5 a6 a7 a8 k, LeO (rules_Copy.f k a0 a1 a2 a3 a4 a5 a6 a7 a8) (rules_Copy.f (k + 1) a0 a1 a2 a3 a4 a5 a6 a7 a8) := by
 intro a0 a1 a2 a3 a4 a5 a6 a7 a8 k
 have ih0 := rules_Copy.mono_l k
 unfold rules_Copy.f
 exact bMo
def rules_Copy.T5 : Bool × List (List Nat × List Nat) := (true, [([], []), ([0], [0]), ([], []), ([], []), ([3], [3]), ([], []), ([4, 5], [4, 5]), ([6], [6]), ([7], [7]), ([8], [8]), ([1, 2, 0, 1, 2, 3, 4, 5, 6, 7, 8, 9], [1, 2]), ([10, 0, 1, 2, 3, 4, 5, 6, 7, 8, 9], [10]), ([11, 9, 9, 0, 1, 2, 3, 4, 5, 6, 7, 8, 9], [9, 11])])
def rules_Copy.B5 : List Nat := [0, 1, 0, 0, 8, 0, 56, 120, 248, 504, 1023, 2047, 4095]
theorem rules_Copy.tab5 : rtab .any (opsOf Try.f24 5) = rules_Copy.T5 := by kernel_rfl
theorem rules_Copy.bits5 : waitsOk rules_Copy.T5.2 rules_Copy.B5 = true := by kernel_rfl
set_option maxHeartbeats 8000000 in
set_option maxRecDepth 100000 in
theorem rules_Copy.calls (k : Nat) (P0_0_ : Nat → Prop) (A0_0 : Option Addr) (c0_0 : Nat) (l0_0 : List (S30)) (a0_1 : Int) (a0_2 : Int) (a0_3 : Int) (a0_4 : Int) (a0_5 : Int) (a0_6 : Int) (a0_7 : Int) (a0_8 : Int) (r1 : List (S30)) (r2 : Int) (r3 : Int) (r4 : Int) (r5 : Int) (r6 : Int) (r7 : Int) (r8 : Int) (r9 : Int) (w : World) (hs0_0 : Kd.V k30 30 w w.heap.size (fun k_ => P0_0_ k_) (.slice A0_0 l0_0.length c0_0) l0_0) (h : rules_Copy.f k l0_0 a0_1 a0_2 a0_3 a0_4 a0_5 a0_6 a0_7 a0_8 = some (r1, r2, r3, r4, r5, r6, r7, r8, r9)) :
  Calls Try.prog 24 #[.agg #[.slice A0_0 l0_0.length c0_0, .int .i64 a0_1, .int .i64 a0_2, .int .i64 a0_3, .int .i64 a0_4, .int .i64 a0_5, .int .i64 a0_6, .int .i64 a0_7, .int .i64 a0_8]] w fun e w' => ∃ v0_ : Value, e = .returned (.agg #[v0_, .int .i64 r2, .int .i64 r3, .int .i64 r4, .int .i64 r5, .int .i64 r6, .int .i64 r7, .int .i64 r8, .int .i64 r9]) ∧ Kd.N k30 30 w' w.heap.size (fun k_ => (P0_0_ k_ ∨ w.heap.size ≤ k_)) v0_ r1 ∧ Below w.heap.size w w' := by
 have hu24 := Try.underlying24
 have HO0_0 := bA (show Kd.V k30 30 w w.heap.size (fun k_ => (P0_0_ k_ ∨ w.heap.size ≤ k_)) (.slice A0_0 l0_0.length c0_0) l0_0 from Kd.V_mono hs0_0 (fun k_ hk => .inl hk))
 have HB := bA (Below.refl w.heap.size w)
 have H : ((slices_Clone_Phase.f l0_0).bind fun t129 => (rules_Copy.l0 k (t129.length : Int) 0 t129 a0_1 a0_2 a0_3 a0_4 a0_5 a0_6 a0_7 a0_8)) = some (r1, r2, r3, r4, r5, r6, r7, r8, r9) := h
 clear h
 replace H := Option.bind_eq_some_iff.mp H
 obtain ⟨t129, A20, H⟩ := H
 have A2 := bA A20
 clear A20
 have H' := bA H
 clear H
 go_enter Try.func24, Try.ntmps24
 go_wp2_with (first | ((with_reducible refine gate_dst (N := 1) rfl ?_); refine bE (N := 1) (cs := #[.slice A0_0 l0_0.length c0_0, .int .i64 a0_1, .int .i64 a0_2, .int .i64 a0_3, .int .i64 a0_4, .int .i64 a0_5, .int .i64 a0_6, .int .i64 a0_7, .int .i64 a0_8]) (t := 24) ?_; intro gb127 hg w3 hbox hb; have BK127 := bA (hbox); have GW127 := bA (bZ hg); have GE127 := bA (bZ hg); replace HO0_0 := bA (Kd.V_below (Kd.V_elderB (by (with_reducible repeat (first | apply Kd.V_alloc | apply Kd.V_drewN | apply Kd.V_drew)); exact HO0_0.out) gb127 (Nat.le_of_eq hg.symm)) hb); replace HB := bA (bS hb); clear hb hbox hg) | ((with_reducible refine gate_dst (N := 2) rfl ?_); refine bE (N := 2) (cs := #[.slice none 0 0, .int .i64 0, .int .i64 0, .int .i64 0, .int .i64 0, .int .i64 0, .int .i64 0, .int .i64 0, .int .i64 0]) (t := 24) ?_; intro gb128 hg w4 hbox hb; have BK128 := bA (hbox); have GW128 := bA (bZ hg); have GE128 := bA (bZ hg); have NB127_128 := bA (bL BK127 hg); have NB128_127 := bA (bG BK127 hg); replace HO0_0 := bA (Kd.V_below (Kd.V_elderB (by (with_reducible repeat (first | apply Kd.V_alloc | apply Kd.V_drewN | apply Kd.V_drew)); exact HO0_0.out) gb128 (Nat.le_of_eq hg.symm)) hb); replace BK127 := bA (bB BK127 hb); replace HB := bA (bS hb); clear hb hbox hg; have hnb5 := NB127_128.out; have hnc5 := NB128_127.out; obtain ⟨hcz6_0, hcz6_1, hcz6_2, hcz6_3, hcz6_4, hcz6_5, hcz6_6, hcz6_7, hcz6_8, hfz6_0, hfz6_1, hfz6_2, hfz6_3, hfz6_4, hfz6_5, hfz6_6, hfz6_7, hfz6_8⟩ := bc9 BK127) | ((first | ((with_reducible refine gate_callee (f := 62) rfl ?_); refine bC (some 6) Try.func62 #[.slice A0_0 l0_0.length c0_0] ?_) | go_at_call 62); (with_reducible refine (slices_Clone_Phase.calls (fun k_ => (((P0_0_ k_ ∨ w.heap.size ≤ k_) ∧ k_ ≠ gb127) ∧ k_ ≠ gb128)) _ _ l0_0 t129 _ ?side1 A2.out).mono ?_); (case side1 => exact HO0_0.out); rintro e w7 ⟨v130, rfl, ho0, hb⟩; (first | refine ⟨_, rfl, ?_⟩ | skip); have HO131 := bA (Kd.N_lower (Kd.N_mono (ok' := fun k_ => (P0_0_ k_ ∨ w.heap.size ≤ k_) ∧ k_ ≠ gb127 ∧ k_ ≠ gb128) ho0 (fun k_ hk_ => ⟨Or.elim hk_ (fun hs_ => hs_.1.1) (fun hn_ => (.inr (Nat.le_trans bY hn_))), Or.elim hk_ (fun hs_ => hs_.1.2) (fun hn_ => (Kd.freshB (g := gb127) (o := .cells #[.slice A0_0 l0_0.length c0_0, .int .i64 a0_1, .int .i64 a0_2, .int .i64 a0_3, .int .i64 a0_4, .int .i64 a0_5, .int .i64 a0_6, .int .i64 a0_7, .int .i64 a0_8] 24 (0, 0)) (bP BK127) k_ hn_)), Or.elim hk_ (fun hs_ => hs_.2) (fun hn_ => (Kd.freshB (g := gb128) (o := .cells #[.slice none 0 0, .int .i64 0, .int .i64 0, .int .i64 0, .int .i64 0, .int .i64 0, .int .i64 0, .int .i64 0, .int .i64 0] 24 (0, 0)) (bP BK128) k_ hn_))⟩)) bY); replace HO0_0 := bA (Kd.V_elder' (by (with_reducible repeat (first | apply Kd.V_alloc | apply Kd.V_drewN | apply Kd.V_drew)); exact HO0_0.out) (Kd.N_base ho0) hb); replace BK127 := bA (bB BK127 hb); replace BK128 := bA (bB BK128 hb); replace HB := bA (bS hb); (try clear hb); (try clear ho0); obtain ⟨Ao8, co8, eo8⟩ := Kd.N_slice HO131.out; subst eo8; obtain ⟨hcz9_0, hcz9_1, hcz9_2, hcz9_3, hcz9_4, hcz9_5, hcz9_6, hcz9_7, hcz9_8, hfz9_0, hfz9_1, hfz9_2, hfz9_3, hfz9_4, hfz9_5, hfz9_6, hfz9_7, hfz9_8⟩ := bc9 BK127))
 go_loopg [11] k (fun kq v11 w' => ∃ (x11_1 : Int) (x128000_1 : List (S30)) (u128000 : Value), v11 = .int .i64 x11_1 ∧ Aside0 (rules_Copy.l0 kq (t129.length : Int) x11_1 x128000_1 a0_1 a0_2 a0_3 a0_4 a0_5 a0_6 a0_7 a0_8 = some (r1, r2, r3, r4, r5, r6, r7, r8, r9)) ∧ Aside0 (kq ≤ k) ∧ Aside0 (Kd.N k30 30 w' w.heap.size (fun k_ => (P0_0_ k_ ∨ w.heap.size ≤ k_) ∧ k_ ≠ gb127 ∧ k_ ≠ gb128) u128000 x128000_1) ∧ Aside0 (w'.heap[gb127]? = some (.cells #[u128000, .int .i64 a0_1, .int .i64 a0_2, .int .i64 a0_3, .int .i64 a0_4, .int .i64 a0_5, .int .i64 a0_6, .int .i64 a0_7, .int .i64 a0_8] 24 (0, 0))) ∧ Aside0 (w'.heap[gb128]? = some (.cells #[(.slice none 0 0), .int .i64 0, .int .i64 0, .int .i64 0, .int .i64 0, .int .i64 0, .int .i64 0, .int .i64 0, .int .i64 0] 24 (0, 0))) ∧ Aside0 (Below w.heap.size w w'))
 case atStart => exact ⟨(0), (t129), (.slice Ao8 t129.length co8), bs, H', ⟨Nat.le_refl _⟩, ⟨by (with_reducible repeat (first | apply Kd.N_alloc | apply Kd.N_drewN | apply Kd.N_drew)); exact Kd.N_mono (Kd.N_far (p := ⟨gb127, 0, none⟩) (Kd.N_mono HO131.out (fun k_ hk => (⟨hk, hk.2.1⟩ : _ ∧ k_ ≠ gb127))) (fun _ hk => hk.2) (.slice Ao8 t129.length co8)) (fun _ hk => ⟨hk.1.1, ⟨hk.1.2.1, hk.1.2.2⟩⟩)⟩, ⟨by (with_reducible repeat (first | refine blk_drewN ?_ _ | refine blk_drew ?_ | refine blk_alloc ?_ _)); refine blk_put (cs := #[.slice A0_0 l0_0.length c0_0, .int .i64 a0_1, .int .i64 a0_2, .int .i64 a0_3, .int .i64 a0_4, .int .i64 a0_5, .int .i64 a0_6, .int .i64 a0_7, .int .i64 a0_8]) ?_ 0 _ rfl; (with_reducible repeat (first | refine blk_drewN ?_ _ | refine blk_drew ?_ | refine blk_alloc ?_ _)); exact BK127.out⟩, ⟨by (with_reducible repeat (first | refine blk_drewN ?_ _ | refine blk_drew ?_ | refine blk_alloc ?_ _)); refine blk_far ?_ NB128_127.out _; (with_reducible repeat (first | refine blk_drewN ?_ _ | refine blk_drew ?_ | refine blk_alloc ?_ _)); exact BK128.out⟩, ⟨bX⟩⟩
 clear H'
 try clear c2
 try clear p2
 try clear c5
 try clear c6
 try clear hcz6_0
 try clear hcz6_1
 try clear hcz6_2
 try clear hcz6_3
 try clear hcz6_4
 try clear hcz6_5
 try clear hcz6_6
 try clear hcz6_7
 try clear hcz6_8
 try clear hcz9_0
 try clear hcz9_1
 try clear hcz9_2
 try clear hcz9_3
 try clear hcz9_4
 try clear hcz9_5
 try clear hcz9_6
 try clear hcz9_7
 try clear hcz9_8
 try clear hfz6_0
 try clear hfz6_1
 try clear hfz6_2
 try clear hfz6_3
 try clear hfz6_4
 try clear hfz6_5
 try clear hfz6_6
 try clear hfz6_7
 try clear hfz6_8
 try clear hfz9_0
 try clear hfz9_1
 try clear hfz9_2
 try clear hfz9_3
 try clear hfz9_4
 try clear hfz9_5
 try clear hfz9_6
 try clear hfz9_7
 try clear hfz9_8
 obtain ⟨x11_1, x128000_1, u128000, rfl, HA, HK1, HO_128000, BK127, BK128, HB⟩ := hrel
 cases gk with
 | zero => exact absurd HA.out (by simp [rules_Copy.l0])
 | succ k1 =>
  have H := HA.out
  clear HA
  simp only [rules_Copy.l0] at H
  by_cases c10 : x11_1 < (t129.length : Int)
  rotate_left
  ·rw [if_neg c10] at H
   have c10b0 : decide (x11_1 < (t129.length : Int)) = false := decide_eq_false c10
   clear c10
   simp only [Option.some.injEq, Prod.mk.injEq] at H
   obtain ⟨rfl, rfl, rfl, rfl, rfl, rfl, rfl, rfl, rfl⟩ := H
   have hnb19 := NB127_128.out
   have hnc19 := NB128_127.out
   obtain ⟨hcz20_0, hcz20_1, hcz20_2, hcz20_3, hcz20_4, hcz20_5, hcz20_6, hcz20_7, hcz20_8, hfz20_0, hfz20_1, hfz20_2, hfz20_3, hfz20_4, hfz20_5, hfz20_6, hfz20_7, hfz20_8⟩ := bc9 BK127
   obtain ⟨Ao21, co21, eo21⟩ := Kd.N_slice HO_128000.out
   subst eo21
   obtain ⟨hcz22_0, hcz22_1, hcz22_2, hcz22_3, hcz22_4, hcz22_5, hcz22_6, hcz22_7, hcz22_8, hfz22_0, hfz22_1, hfz22_2, hfz22_3, hfz22_4, hfz22_5, hfz22_6, hfz22_7, hfz22_8⟩ := bc9 BK128
   go_wp2
   refine bodyPost_ret (results_cell_row rfl _ _ gb128 24 #[.slice Ao21 x128000_1.length co21, .int .i64 a0_1, .int .i64 a0_2, .int .i64 a0_3, .int .i64 a0_4, .int .i64 a0_5, .int .i64 a0_6, .int .i64 a0_7, .int .i64 a0_8] (0, 0) _ rfl (by (with_reducible repeat (first | refine blk_drewN ?_ _ | refine blk_drew ?_ | refine blk_alloc ?_ _)); refine blk_put (cs := #[.slice Ao21 x128000_1.length co21, .int .i64 a0_1, .int .i64 a0_2, .int .i64 a0_3, .int .i64 a0_4, .int .i64 a0_5, .int .i64 a0_6, .int .i64 a0_7, .int .i64 0]) ?_ 8 _ rfl; (with_reducible repeat (first | refine blk_drewN ?_ _ | refine blk_drew ?_ | refine blk_alloc ?_ _)); refine blk_put (cs := #[.slice Ao21 x128000_1.length co21, .int .i64 a0_1, .int .i64 a0_2, .int .i64 a0_3, .int .i64 a0_4, .int .i64 a0_5, .int .i64 a0_6, .int .i64 0, .int .i64 0]) ?_ 7 _ rfl; (with_reducible repeat (first | refine blk_drewN ?_ _ | refine blk_drew ?_ | refine blk_alloc ?_ _)); refine blk_put (cs := #[.slice Ao21 x128000_1.length co21, .int .i64 a0_1, .int .i64 a0_2, .int .i64 a0_3, .int .i64 a0_4, .int .i64 a0_5, .int .i64 0, .int .i64 0, .int .i64 0]) ?_ 6 _ rfl; (with_reducible repeat (first | refine blk_drewN ?_ _ | refine blk_drew ?_ | refine blk_alloc ?_ _)); refine blk_put (cs := #[.slice Ao21 x128000_1.length co21, .int .i64 a0_1, .int .i64 a0_2, .int .i64 a0_3, .int .i64 a0_4, .int .i64 0, .int .i64 0, .int .i64 0, .int .i64 0]) ?_ 5 _ rfl; (with_reducible repeat (first | refine blk_drewN ?_ _ | refine blk_drew ?_ | refine blk_alloc ?_ _)); refine blk_put (cs := #[.slice Ao21 x128000_1.length co21, .int .i64 a0_1, .int .i64 a0_2, .int .i64 a0_3, .int .i64 0, .int .i64 0, .int .i64 0, .int .i64 0, .int .i64 0]) ?_ 4 _ rfl; (with_reducible repeat (first | refine blk_drewN ?_ _ | refine blk_drew ?_ | refine blk_alloc ?_ _)); refine blk_put (cs := #[.slice Ao21 x128000_1.length co21, .int .i64 a0_1, .int .i64 a0_2, .int .i64 0, .int .i64 0, .int .i64 0, .int .i64 0, .int .i64 0, .int .i64 0]) ?_ 3 _ rfl; (with_reducible repeat (first | refine blk_drewN ?_ _ | refine blk_drew ?_ | refine blk_alloc ?_ _)); refine blk_put (cs := #[.slice Ao21 x128000_1.length co21, .int .i64 a0_1, .int .i64 0, .int .i64 0, .int .i64 0, .int .i64 0, .int .i64 0, .int .i64 0, .int .i64 0]) ?_ 2 _ rfl; (with_reducible repeat (first | refine blk_drewN ?_ _ | refine blk_drew ?_ | refine blk_alloc ?_ _)); refine blk_put (cs := #[.slice Ao21 x128000_1.length co21, .int .i64 0, .int .i64 0, .int .i64 0, .int .i64 0, .int .i64 0, .int .i64 0, .int .i64 0, .int .i64 0]) ?_ 1 _ rfl; (with_reducible repeat (first | refine blk_drewN ?_ _ | refine blk_drew ?_ | refine blk_alloc ?_ _)); refine blk_put (cs := #[.slice none 0 0, .int .i64 0, .int .i64 0, .int .i64 0, .int .i64 0, .int .i64 0, .int .i64 0, .int .i64 0, .int .i64 0]) ?_ 0 _ rfl; (with_reducible repeat (first | refine blk_drewN ?_ _ | refine blk_drew ?_ | refine blk_alloc ?_ _)); exact BK128.out) Try.underlying24 rfl (by kernel_rfl)) rfl ?_
   exact ⟨_, by first | rfl | (simp [errW_none, errW_some] <;> rfl) | (simp [*, errW_none, errW_some] <;> rfl), by (with_reducible repeat (first | apply Kd.N_alloc | apply Kd.N_drewN | apply Kd.N_drew)); exact Kd.N_mono (Kd.N_far (p := ⟨gb128, 8, none⟩) (Kd.N_far (p := ⟨gb128, 7, none⟩) (Kd.N_far (p := ⟨gb128, 6, none⟩) (Kd.N_far (p := ⟨gb128, 5, none⟩) (Kd.N_far (p := ⟨gb128, 4, none⟩) (Kd.N_far (p := ⟨gb128, 3, none⟩) (Kd.N_far (p := ⟨gb128, 2, none⟩) (Kd.N_far (p := ⟨gb128, 1, none⟩) (Kd.N_far (p := ⟨gb128, 0, none⟩) (Kd.N_mono HO_128000.out (fun k_ hk => (⟨hk, hk.2.2⟩ : _ ∧ k_ ≠ gb128))) (fun _ hk => hk.2) (.slice Ao21 x128000_1.length co21)) (fun _ hk => hk.2) (.int .i64 a0_1)) (fun _ hk => hk.2) (.int .i64 a0_2)) (fun _ hk => hk.2) (.int .i64 a0_3)) (fun _ hk => hk.2) (.int .i64 a0_4)) (fun _ hk => hk.2) (.int .i64 a0_5)) (fun _ hk => hk.2) (.int .i64 a0_6)) (fun _ hk => hk.2) (.int .i64 a0_7)) (fun _ hk => hk.2) (.int .i64 a0_8)) (fun _ hk => hk.1.1), by repeat (first | (with_reducible first | exact HB.out | apply below_alloc | apply pw_below_drewN | apply below_drew1 | refine below_set ?_ GE127.out | refine below_set ?_ GE128.out) | exact HB.out)⟩
  rw [if_pos c10] at H
  have c10b0 : decide (x11_1 < (t129.length : Int)) = true := decide_eq_true c10
  clear c10
  by_cases c11 : 0 ≤ x11_1
  rotate_left
  ·rw [if_neg c11] at H
   exact absurd H (by simp)
  rw [if_pos c11] at H
  have c11b0 : decide (0 ≤ x11_1) = true := decide_eq_true c11
  clear c11
  by_cases c12 : x11_1 < (x128000_1.length : Int)
  rotate_left
  ·rw [if_neg c12] at H
   exact absurd H (by simp)
  rw [if_pos c12] at H
  have c12b0 : decide (x11_1 < (x128000_1.length : Int)) = true := decide_eq_true c12
  clear c12
  replace H := Option.bind_eq_some_iff.mp H
  obtain ⟨t133, A130, H⟩ := H
  have A13 := bA A130
  clear A130
  obtain ⟨y136, hy136⟩ : ∃ y_ : List (S30), y_ = (x128000_1.set (x11_1 : Int).toNat (⟨t133, (rd_T30 x128000_1 x11_1).f1, (rd_T30 x128000_1 x11_1).f2, (rd_T30 x128000_1 x11_1).f3, (rd_T30 x128000_1 x11_1).f4⟩ : S30)) := ⟨_, rfl⟩
  replace H : (rules_Copy.l0 k1 (t129.length : Int) (wrap64 (x11_1 + 1)) y136 a0_1 a0_2 a0_3 a0_4 a0_5 a0_6 a0_7 a0_8) = some (r1, r2, r3, r4, r5, r6, r7, r8, r9) := by first | (rw [hy136]; with_reducible exact H) | (have H2_ := (Option.bind_some _ _).symm.trans H; rw [hy136]; with_reducible exact H2_) | (have H2_ := (Option.bind_some _ _).symm.trans H; with_reducible exact H2_) | with_reducible exact H | (rw [hy136]; exact H) | exact H
  have Ny136 := bA hy136
  clear hy136
  have H' := bA H
  clear H
  try go_wp2
  replace HO_128000 := bA (Kd.N_drew HO_128000.out)
  replace BK127 := bA (blk_drew BK127.out)
  replace BK128 := bA (blk_drew BK128.out)
  replace HB := bA (below_drew1 HB.out)
  obtain ⟨Ao16, co16, eo16⟩ := Kd.N_slice HO_128000.out
  (first | subst eo16 | (injection eo16 with f1_ f2_ f3_; have f4_ := f1_.symm; have f5_ := f3_.symm; clear f1_ f2_ f3_; subst f4_; subst f5_))
  have p132 : 0 ≤ (x11_1 : Int) := bo
  have q132 : x11_1 < (x128000_1.length : Int) := bo
  obtain ⟨ad132, A132_0, c132_0, e132, hx132_0, hx132_1, hx132_2, hx132_3, hx132_4, hl132_0, hi132_0⟩ := at_T30 (Kd.N_reads' HO_128000.out).2.2 x11_1 p132 q132
  cases e132
  obtain ⟨ce132, hce132, hMe132, hcc132⟩ := Kd.N_get HO_128000.out z30 x11_1 p132 (by first | exact q132 | exact bo | (have e_ := (Kd.N_reads' HO_128000.out).1; omega))
  obtain ⟨ua132_0, uc132_0, rfl, ul132_0, ge132_0⟩ := k30_openF hMe132
  have hv132_0 := hcc132 0 _ rfl
  rw [Nat.add_zero] at hv132_0
  replace hv132_0 := Option.some.inj (hv132_0.symm.trans hx132_0)
  injection hv132_0 with hva_ hvn_ hvc_
  rw [hva_] at ge132_0
  rw [hvc_] at ul132_0
  have HL132_0 := bA (show Kd.V k41 41 _ w.heap.size _ _ ((rd_T30 x128000_1 x11_1).f0) from Kd.V_mk ul132_0 ge132_0)
  clear hva_ hvn_ hvc_ ge132_0 ul132_0
  clear hcc132 hce132
  have HR132_0 := bA hi132_0
  have HC132_0 := bA hl132_0
  clear hi132_0 hl132_0
  replace p132 := eq_true p132
  replace q132 := eq_true q132
  refine start_ (n := 13) (S := fun w' => w'.cell? ⟨gb127, 0, none⟩ = some (.slice (some ad132) x128000_1.length co16) ∧ w'.cell? ⟨gb127, 1, none⟩ = some (.int .i64 a0_1) ∧ w'.cell? ⟨gb127, 2, none⟩ = some (.int .i64 a0_2) ∧ w'.cell? ⟨gb127, 3, none⟩ = some (.int .i64 a0_3) ∧ w'.cell? ⟨gb127, 4, none⟩ = some (.int .i64 a0_4) ∧ w'.cell? ⟨gb127, 5, none⟩ = some (.int .i64 a0_5) ∧ w'.cell? ⟨gb127, 6, none⟩ = some (.int .i64 a0_6) ∧ w'.cell? ⟨gb127, 7, none⟩ = some (.int .i64 a0_7) ∧ w'.cell? ⟨gb127, 8, none⟩ = some (.int .i64 a0_8) ∧ w'.cell? (ad132.add ((x11_1).toNat * 5)) = some (.slice A132_0 ((rd_T30 x128000_1 x11_1).f0).length c132_0) ∧ w'.cell? ⟨(ad132.add ((x11_1).toNat * 5)).block, (ad132.add ((x11_1).toNat * 5)).off + 1, none⟩ = some (.int .i64 ((rd_T30 x128000_1 x11_1).f1)) ∧ w'.cell? ⟨(ad132.add ((x11_1).toNat * 5)).block, (ad132.add ((x11_1).toNat * 5)).off + 2, none⟩ = some (.int .i64 ((rd_T30 x128000_1 x11_1).f2)) ∧ w'.cell? ⟨(ad132.add ((x11_1).toNat * 5)).block, (ad132.add ((x11_1).toNat * 5)).off + 3, none⟩ = some (.int .i64 ((rd_T30 x128000_1 x11_1).f3)) ∧ w'.cell? ⟨(ad132.add ((x11_1).toNat * 5)).block, (ad132.add ((x11_1).toNat * 5)).off + 4, none⟩ = some (.int .i64 ((rd_T30 x128000_1 x11_1).f4))) (ds := [12]) #[false,false,false,false,false,false,false,false,false,false,false,false,false] (by kernel_rfl) rfl rfl ⟨bq BK127 0, bq BK127 1, bq BK127 2, bq BK127 3, bq BK127 4, bq BK127 5, bq BK127 6, bq BK127 7, bq BK127 8, hx132_0, hx132_1, hx132_2, hx132_3, hx132_4⟩ (fun hHeld => ?_); refine with_tabW rules_Copy.tab5 rules_Copy.bits5 (fun HT_ HW_ => ?_)
  generalize wr.drew = w15 at HO_128000 BK127 BK128 HB HL132_0 HR132_0 hx132_0 hx132_1 hx132_2 hx132_3 hx132_4 hHeld ⊢
  refine bU (i := 0) (N := some 14) ?_
  refine bU (i := 2) (N := some 16) ?_
  refine bU (i := 3) (N := some 17) ?_
  refine bU (i := 5) (N := some 19) ?_
  refine bW (i := 1) (N := some 15) hHeld ?_
  refine bW (i := 4) (N := some 18) hHeld ?_
  refine bU (i := 6) (N := some 20) ?_
  refine bU (i := 7) (N := some 21) ?_
  refine bW (i := 8) (N := some 22) hHeld ?_
  refine one_ (i := 9) (N := some 23) #[true,true,true,true,true,true,true,true,true,true,false,false,false] rfl rfl (one_of HT_.out (by kernel_rfl)) (by decide) (fun K hK => ?_)
  refine goes_ Try.func56 (by kernel_rfl) rfl #[.slice A132_0 ((rd_T30 x128000_1 x11_1).f0).length c132_0] (by rfl) rfl rfl (by (try simp only [List.map_toArray, List.map_cons, List.map_nil]); first | done | rfl | (simp only [List.length_drop, List.length_take]; rfl)) ?_
  with_reducible refine (slices_Clone_Point.calls _ _ ((rd_T30 x128000_1 x11_1).f0) t133 _ ?side1 ?side2 A13.out).mono ?_
  (case side1 => repeat (first | exact (by repeat (first | (with_reducible exact HR132_0.out) | (with_reducible refine Kd.C_alloc ?_ _) | (with_reducible refine Kd.C_drewN ?_ _) | (with_reducible refine Kd.C_drew ?_) | exact HR132_0.out)) | (with_reducible refine Kd.C_alloc ?_ _) | (with_reducible refine Kd.C_drewN ?_ _) | (with_reducible refine Kd.C_drew ?_)))
  (case side2 => exact HC132_0.out)
  rintro e w17 ⟨v134, rfl, ho0, hb⟩
  have HS9_ := (hb.cell (World.block_lt_of_cell? _ _ (hHeld.2.2.2.2.2.2.2.2.2.1))).trans (hHeld.2.2.2.2.2.2.2.2.2.1)
  have HS10_ := (hb.cell (World.block_lt_of_cell? _ _ (hHeld.2.2.2.2.2.2.2.2.2.2.1))).trans (hHeld.2.2.2.2.2.2.2.2.2.2.1)
  have HS11_ := (hb.cell (World.block_lt_of_cell? _ _ (hHeld.2.2.2.2.2.2.2.2.2.2.2.1))).trans (hHeld.2.2.2.2.2.2.2.2.2.2.2.1)
  have HS12_ := (hb.cell (World.block_lt_of_cell? _ _ (hHeld.2.2.2.2.2.2.2.2.2.2.2.2.1))).trans (hHeld.2.2.2.2.2.2.2.2.2.2.2.2.1)
  have HS13_ := (hb.cell (World.block_lt_of_cell? _ _ (hHeld.2.2.2.2.2.2.2.2.2.2.2.2.2))).trans (hHeld.2.2.2.2.2.2.2.2.2.2.2.2.2)
  refine ⟨_, rfl, ?_⟩
  have HO135 := bA (Kd.R_lower (Kd.R_newM (M := fun k_ => (w.heap.size ≤ k_)) ho0 bY (fun k_ h_ => h_)) bY)
  obtain ⟨Ao134, co134, eo134⟩ := Kd.R_slice HO135.out; subst eo134
  replace HO_128000 := bA (Kd.N_elder' (bNr HO_128000) (Kd.R_base ho0) hb)
  replace HL132_0 := bA (Kd.V_elder' (by (with_reducible repeat (first | apply Kd.V_alloc | apply Kd.V_drewN | apply Kd.V_drew)); exact HL132_0.out) (Kd.R_base ho0) hb)
  replace BK127 := bA (bB BK127 hb)
  replace BK128 := bA (bB BK128 hb)
  replace HR132_0 := bA (Kd.C_below (by repeat (first | (with_reducible exact HR132_0.out) | (with_reducible refine Kd.C_alloc ?_ _) | (with_reducible refine Kd.C_drewN ?_ _) | (with_reducible refine Kd.C_drew ?_) | exact HR132_0.out)) hb)
  replace HB := bA (bS hb)
  (try clear hb)
  (try clear ho0)
  have p14 : 0 ≤ (x11_1 : Int) := bo
  have q14 : (x11_1 : Int) < ((x128000_1.length : Int) : Int) := bo
  obtain ⟨go14, co14, eo14, gb14, gl14, cl14, HG14⟩ := Kd.N_form HO_128000.out (by omega)
  (first | cases eo14 | (injection eo14 with ea_ en_ ec_; (first | subst ea_ | (injection ea_ with ea_; subst ea_)); subst ec_; clear en_))
  have GB14 := bA gb14
  have GG14 := bA HG14
  clear gb14 gl14 HG14
  (first | simp only [add_plain] at hx132_0 | skip)
  (first | simp only [add_plain] at hx132_1 | skip)
  (first | simp only [add_plain] at hx132_2 | skip)
  (first | simp only [add_plain] at hx132_3 | skip)
  (first | simp only [add_plain] at hx132_4 | skip)
  obtain ⟨ce14, hcl14, hM14, hcc14, hfr14⟩ := Kd.N_elem HO_128000.out z30 (x11_1 : Int) p14 q14
  obtain ⟨ua14_0, uc14_0, rfl, ul14_0, ge14_0⟩ := k30_openF hM14
  have hx14_0 : World.cell? _ ⟨go14, (x11_1 : Int).toNat * 5, none⟩ = some (.slice ua14_0 ((rd_T30 x128000_1 x11_1).f0).length uc14_0) := hcc14 0 _ rfl
  have hx14_1 : World.cell? _ ⟨go14, (x11_1 : Int).toNat * 5 + 1, none⟩ = some (.int .i64 ((rd_T30 x128000_1 x11_1).f1)) := hcc14 1 _ rfl
  have hx14_2 : World.cell? _ ⟨go14, (x11_1 : Int).toNat * 5 + 2, none⟩ = some (.int .i64 ((rd_T30 x128000_1 x11_1).f2)) := hcc14 2 _ rfl
  have hx14_3 : World.cell? _ ⟨go14, (x11_1 : Int).toNat * 5 + 3, none⟩ = some (.int .i64 ((rd_T30 x128000_1 x11_1).f3)) := hcc14 3 _ rfl
  have hx14_4 : World.cell? _ ⟨go14, (x11_1 : Int).toNat * 5 + 4, none⟩ = some (.int .i64 ((rd_T30 x128000_1 x11_1).f4)) := hcc14 4 _ rfl
  have hf14_0 : World.frozen? _ ⟨go14, (x11_1 : Int).toNat * 5, none⟩ = false := hfr14 0
  have hf14_1 : World.frozen? _ ⟨go14, (x11_1 : Int).toNat * 5 + 1, none⟩ = false := hfr14 1
  have hf14_2 : World.frozen? _ ⟨go14, (x11_1 : Int).toNat * 5 + 2, none⟩ = false := hfr14 2
  have hf14_3 : World.frozen? _ ⟨go14, (x11_1 : Int).toNat * 5 + 3, none⟩ = false := hfr14 3
  have hf14_4 : World.frozen? _ ⟨go14, (x11_1 : Int).toNat * 5 + 4, none⟩ = false := hfr14 4
  clear hcl14 hcc14 hfr14 hM14
  replace p14 := eq_true p14
  replace q14 := eq_true q14
  have HX18 := bA (show Kd.N k30 30 _ w.heap.size (fun k_ => (P0_0_ k_ ∨ w.heap.size ≤ k_) ∧ some k_ ≠ ((.slice Ao134 t133.length co134) : Value).ownBlock ∧ k_ ≠ gb127 ∧ k_ ≠ gb128) (.slice (some ⟨go14, 0, none⟩) x128000_1.length co16) x128000_1 from (Kd.N_mono (HO_128000.out) (fun k_ hk => ⟨hk.1.1, ⟨hk.2, ⟨hk.1.2.1, hk.1.2.2⟩⟩⟩)))
  replace HX18 := bA (show Kd.N k30 30 _ w.heap.size (fun k_ => (P0_0_ k_ ∨ w.heap.size ≤ k_) ∧ k_ ≠ gb127 ∧ k_ ≠ gb128) (.slice (some ⟨go14, 0, none⟩) x128000_1.length co16) x128000_1 from Kd.N_mono HX18.out (fun k_ hk => ⟨hk.1, ⟨hk.2.2.1, hk.2.2.2⟩⟩))
  obtain ⟨ce18, hcl18, hM18, hcc18, hfr18⟩ := Kd.N_elem HX18.out z30 (x11_1 : Int) (bo) (by have h_ : (x11_1 : Int) < ((x128000_1.length : Int) : Int) := bo; first | exact h_ | (have e_ := (Kd.N_reads' HO_128000.out).1; omega) | simpa using h_)
  obtain ⟨ua18_0, uc18_0, rfl, ul18_0, ge18_0⟩ := k30_openF hM18
  have HP18 := (Kd.N_seg HX18.out (x11_1 : Int) (bo) (by have h_ : (x11_1 : Int) < ((x128000_1.length : Int) : Int) := bo; first | exact h_ | (have e_ := (Kd.N_reads' HO_128000.out).1; omega) | simpa using h_) (seg := [(.slice Ao134 t133.length co134)]) (j := 0) hcl18 hcc18 (show 1 ≤ 5 from by decide) (x' := (⟨t133, (rd_T30 x128000_1 x11_1).f1, (rd_T30 x128000_1 x11_1).f2, (rd_T30 x128000_1 x11_1).f3, (rd_T30 x128000_1 x11_1).f4⟩ : S30)) (k30_mkF _ _ (⟨t133, (rd_T30 x128000_1 x11_1).f1, (rd_T30 x128000_1 x11_1).f2, (rd_T30 x128000_1 x11_1).f3, (rd_T30 x128000_1 x11_1).f4⟩ : S30) (Kd.R_reads' (Kd.R_mono (ok' := (fun k_ => ((fun k_ => (P0_0_ k_ ∨ w.heap.size ≤ k_) ∧ k_ ≠ gb127 ∧ k_ ≠ gb128)) k_ ∧ k_ ≠ go14)) (Kd.R_types (Kd.R_types (Kd.R_apart' (HO135.out) (Kd.N_typed HO_128000.out) (by decide)) BK127.out (by decide)) BK128.out (by decide)) (fun k_ hk => ⟨⟨(.inr (hk.1.1.1.1)), ⟨hk.1.2, hk.2⟩⟩, fun e_ => (hk.1.1.2) (by rw [e_]; rfl)⟩))).2.1 (Kd.R_F (Kd.R_mono (ok' := (fun k_ => ((fun k_ => (P0_0_ k_ ∨ w.heap.size ≤ k_) ∧ k_ ≠ gb127 ∧ k_ ≠ gb128)) k_ ∧ k_ ≠ go14)) (Kd.R_types (Kd.R_types (Kd.R_apart' (HO135.out) (Kd.N_typed HO_128000.out) (by decide)) BK127.out (by decide)) BK128.out (by decide)) (fun k_ hk => ⟨⟨(.inr (hk.1.1.1.1)), ⟨hk.1.2, hk.2⟩⟩, fun e_ => (hk.1.1.2) (by rw [e_]; rfl)⟩)))) (fun _ hk => hk)).1
  rw [← Ny136.out] at HP18
  have HQ18 := bA HP18
  clear hcl18 hcc18 hfr18 hM18 HP18
  refine hK.out _ _ ⟨bq BK127 0, bq BK127 1, bq BK127 2, bq BK127 3, bq BK127 4, bq BK127 5, bq BK127 6, bq BK127 7, bq BK127 8, HS9_, HS10_, HS11_, HS12_, HS13_⟩ (fun hHeld => ?_)
  clear hK K
  refine bI 23 ?_
  refine bU (i := 10) (N := some 24) ?_
  refine bU (i := 11) (N := some 25) ?_
  refine last_ (i := 12) (N := none) #[true,true,true,true,true,true,true,true,true,true,true,true,true] rfl rfl (one_of HT_.out (by kernel_rfl)) (by decide) (fun K hK => ?_)
  refine skip_ (w1 := ?_) (by rfl) rfl ?_ ?_
  rotate_left
  ·go_simp
   rfl
  refine hK.out _ _ ?_
  clear hK K
  refine done_ (done_of HT_.out (by kernel_rfl)) ?_
  try go_wp2
  go_roundg k1
  case measure => have := HK1.out; omega
  case rel => exact ⟨(wrap64 (x11_1 + 1)), (y136), (.slice (some ⟨go14, 0, none⟩) x128000_1.length co16), bs, H', ⟨by have := HK1.out; omega⟩, ⟨by (with_reducible repeat (first | apply Kd.N_alloc | apply Kd.N_drewN | apply Kd.N_drew)); exact HQ18.out⟩, ⟨by (with_reducible repeat (first | refine blk_drewN ?_ _ | refine blk_drew ?_ | refine blk_alloc ?_ _)); refine blk_far ?_ (by have h_ := Kd.N_away HO_128000.out (fun _ hk => hk.1.2.1); intro e_; exact h_ (by rw [e_]; rfl)) _; (with_reducible repeat (first | refine blk_drewN ?_ _ | refine blk_drew ?_ | refine blk_alloc ?_ _)); exact BK127.out⟩, ⟨by (with_reducible repeat (first | refine blk_drewN ?_ _ | refine blk_drew ?_ | refine blk_alloc ?_ _)); refine blk_far ?_ (by have h_ := Kd.N_away HO_128000.out (fun _ hk => hk.1.2.2); intro e_; exact h_ (by rw [e_]; rfl)) _; (with_reducible repeat (first | refine blk_drewN ?_ _ | refine blk_drew ?_ | refine blk_alloc ?_ _)); exact BK128.out⟩, ⟨by repeat (first | (with_reducible first | exact HB.out | apply below_alloc | apply pw_below_drewN | apply below_drew1 | refine below_set ?_ GB14.out | refine below_set ?_ GE127.out | refine below_set ?_ GE128.out) | exact HB.out)⟩⟩
/-! ### rules_within_int: function 57 -/
def rules_within_int.f (a0 : Int) (a1 : Int) (a2 : Int) : Option (Bool) := if a0 ≥ a1 then (some (decide (a0 ≤ a2))) else (some false)
set_option maxHeartbeats 8000000 in
set_option maxRecDepth 100000 in
theorem rules_within_int.calls (a0 : Int) (a1 : Int) (a2 : Int) (r : Bool) (w : World) (h : rules_within_int.f a0 a1 a2 = some r) :
  Calls Try.prog 57 #[.int .i64 a0, .int .i64 a1, .int .i64 a2] w fun e w' => e = .returned (.bool r) ∧ Drawn0 w w' := by
 have H : (if a0 ≥ a1 then (some (decide (a0 ≤ a2))) else (some false)) = some r := h
 clear h
 by_cases c4 : a0 ≥ a1
 rw [if_pos c4] at H
 have c4b0 : decide (a1 ≤ a0) = true := decide_eq_true c4
 clear c4
 obtain rfl := Option.some.inj H
 rotate_left
 rw [if_neg c4] at H
 have c4b0 : decide (a1 ≤ a0) = false := decide_eq_false c4
 clear c4
 obtain rfl := Option.some.inj H
 rotate_left
 all_goals go_enter Try.func57, Try.ntmps57
 all_goals go_wp2
 all_goals (go_ret; exact bD)
/-! ### point_within: function 103 -/
def point_within.f (a0 : Int) : Option (Bool) := if a0 ≥ (-1099511627776) then (some (decide (a0 ≤ 1099511627776))) else (some false)
set_option maxHeartbeats 8000000 in
set_option maxRecDepth 100000 in
theorem point_within.calls (a0 : Int) (r : Bool) (w : World) (h : point_within.f a0 = some r) :
  Calls Try.prog 103 #[.int .i64 a0] w fun e w' => e = .returned (.bool r) ∧ Drawn0 w w' := by
 have H : (if a0 ≥ (-1099511627776) then (some (decide (a0 ≤ 1099511627776))) else (some false)) = some r := h
 clear h
 by_cases c2 : a0 ≥ (-1099511627776)
 rw [if_pos c2] at H
 have c2b0 : decide ((-1099511627776) ≤ a0) = true := decide_eq_true c2
 clear c2
 obtain rfl := Option.some.inj H
 rotate_left
 rw [if_neg c2] at H
 have c2b0 : decide ((-1099511627776) ≤ a0) = false := decide_eq_false c2
 clear c2
 obtain rfl := Option.some.inj H
 rotate_left
 all_goals go_enter Try.func103, Try.ntmps103
 all_goals go_wp2
 all_goals (go_ret; exact bD)
/-! ### point_Right: function 67 -/
def point_Right.f (a0_0 : Int) (a0_1 : Int) : Option (Bool) := (point_within.f a0_0).bind fun t138 => (if t138 = true then ((point_within.f a0_1).bind fun t139 => (some t139)) else (some false))
set_option maxHeartbeats 8000000 in
set_option maxRecDepth 100000 in
theorem point_Right.calls (a0_0 : Int) (a0_1 : Int) (r : Bool) (w : World) (h : point_Right.f a0_0 a0_1 = some r) :
  Calls Try.prog 67 #[.agg #[.int .i64 a0_0, .int .i64 a0_1]] w fun e w' => e = .returned (.bool r) ∧ Below w.heap.size w w' := by
 have hu41 := Try.underlying41
 have HB := bA (Below.refl w.heap.size w)
 have H : ((point_within.f a0_0).bind fun t138 => (if t138 = true then ((point_within.f a0_1).bind fun t139 => (some t139)) else (some false))) = some r := h
 clear h
 replace H := Option.bind_eq_some_iff.mp H
 obtain ⟨t138, A20, H⟩ := H
 have A2 := bA A20
 clear A20
 by_cases c3 : t138 = true
 subst c3
 rw [if_pos rfl] at H
 replace H := Option.bind_eq_some_iff.mp H
 obtain ⟨t139, A40, H⟩ := H
 have A4 := bA A40
 clear A40
 obtain rfl := Option.some.inj H
 rotate_left
 replace c3 := Bool.eq_false_iff.mpr c3
 subst c3
 rw [if_neg bn] at H
 obtain rfl := Option.some.inj H
 rotate_left
 all_goals go_enter Try.func67, Try.ntmps67
 all_goals go_wp2_with (first | ((with_reducible refine gate_dst (N := 1) rfl ?_); refine bE (N := 1) (cs := #[.int .i64 a0_0, .int .i64 a0_1]) (t := 41) ?_; intro gb137 hg wz0 hbox hb; have BK137 := bA (hbox); have GW137 := bA (bZ hg); have GE137 := bA (bZ hg); replace HB := bA (bS hb); clear hb hbox hg; obtain ⟨hz1, hz2, hz3, hz4⟩ := bc2 BK137) | ((first | ((with_reducible refine gate_callee (f := 103) rfl ?_); refine bC (some 5) Try.func103 #[.int .i64 a0_0] ?_) | go_at_call 103); (with_reducible refine (point_within.calls a0_0 true _ A2.out).mono ?_); rintro e w' ⟨rfl, ⟨nd, rfl⟩⟩; (first | refine ⟨_, rfl, ?_⟩ | skip)) | (go_at_call 103; (with_reducible refine (point_within.calls a0_1 t139 _ A4.out).mono ?_); rintro e w' ⟨rfl, ⟨nd, rfl⟩⟩) | ((first | ((with_reducible refine gate_callee (f := 103) rfl ?_); refine bC (some 5) Try.func103 #[.int .i64 a0_0] ?_) | go_at_call 103); (with_reducible refine (point_within.calls a0_0 false _ A2.out).mono ?_); rintro e w' ⟨rfl, ⟨nd, rfl⟩⟩; (first | refine ⟨_, rfl, ?_⟩ | skip)))
 all_goals (go_ret; exact bF)
/-! ### poly_Simple_1: function 66 -/
def poly_Simple_1.f (a0_0 : Int) (a0_1 : Int) : Option (Bool) := (point_Right.f a0_0 a0_1).bind fun t141 => (some (!t141))
set_option maxHeartbeats 8000000 in
set_option maxRecDepth 100000 in
theorem poly_Simple_1.calls (a0_0 : Int) (a0_1 : Int) (r : Bool) (w : World) (h : poly_Simple_1.f a0_0 a0_1 = some r) :
  Calls Try.prog 66 #[.agg #[.int .i64 a0_0, .int .i64 a0_1]] w fun e w' => e = .returned (.bool r) ∧ Below w.heap.size w w' := by
 have hu41 := Try.underlying41
 have HB := bA (Below.refl w.heap.size w)
 have H : ((point_Right.f a0_0 a0_1).bind fun t141 => (some (!t141))) = some r := h
 clear h
 replace H := Option.bind_eq_some_iff.mp H
 obtain ⟨t141, A20, H⟩ := H
 have A2 := bA A20
 clear A20
 obtain rfl := Option.some.inj H
 go_enter Try.func66, Try.ntmps66
 go_wp2_with (first | ((with_reducible refine gate_dst (N := 1) rfl ?_); refine bE (N := 1) (cs := #[.int .i64 a0_0, .int .i64 a0_1]) (t := 41) ?_; intro gb140 hg w3 hbox hb; have BK140 := bA (hbox); have GW140 := bA (bZ hg); have GE140 := bA (bZ hg); replace HB := bA (bS hb); clear hb hbox hg; obtain ⟨hcz4_0, hcz4_1, hfz4_0, hfz4_1⟩ := bc2 BK140) | ((first | ((with_reducible refine gate_callee (f := 67) rfl ?_); refine bC (some 4) Try.func67 #[.agg #[.int .i64 a0_0, .int .i64 a0_1]] ?_) | go_at_call 67); (with_reducible refine (point_Right.calls a0_0 a0_1 t141 _ A2.out).mono ?_); rintro e w5 ⟨rfl, hb⟩; (first | refine ⟨_, rfl, ?_⟩ | skip); replace BK140 := bA (bB BK140 hb); replace HB := bA (bS hb); (try clear hb)))
 go_ret
 exact bF
end Go.Proofs.Ytjmibjmlihmglaa.G
