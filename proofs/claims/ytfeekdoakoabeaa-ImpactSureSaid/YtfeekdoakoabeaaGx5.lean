-- Written by a program of this session out of the translation; Lean checks it.
import Derived.Test.YtfeekdoakoabeaaGx0
namespace Go.Proofs.Ytfeekdoakoabeaa.G
open Go.RowKit Go.Proofs.YtfeekdoakoabeaaW.PrintWords Go.Proofs.YtfeekdoakoabeaaW.PrintLast Go.Proofs.YtfeekdoakoabeaaW.PrintMore
attribute [local go_sem] max2_int min2_int max_two min_two max_three min_three max_four min_four   -- for this text's walks alone
set_option linter.unusedVariables false
set_option linter.unusedSimpArgs false

/-! ### apogeelaw13_Mission: function 44 -/
def apogeelaw13_Mission.l0 : Nat → Int → Int → List (S42) → Int → Int → Int → Int → Int → Int → Int → Int → Option ((List (S42)) × Int × Int × Int × Int × Int × Int × Int × Int)
 | 0, _, _, _, _, _, _, _, _, _, _, _ => none
 | k + 1, x6, x7, x103000, x103001, x103002, x103003, x103004, x103005, x103006, x103007, x103008 => if x7 < x6 then (if x103000.length < 2513169434916 then (apogeelaw13_Mission.l0 k x6 (wrap64 (x7 + 1)) (x103000 ++ [(⟨(([(⟨(-1000), (-1000)⟩ : S28), (⟨1000, (-1000)⟩ : S28), (⟨1000, 1000⟩ : S28), (⟨(-1000), 1000⟩ : S28)] : List (S28))), 1, 200, 5, 100⟩ : S42)]) x103001 x103002 x103003 x103004 x103005 x103006 x103007 x103008) else (none)) else (some (x103000, x103001, x103002, x103003, x103004, x103005, x103006, x103007, x103008))
def apogeelaw13_Mission.f (k : Nat) (a0 : Int) : Option ((List (S42)) × Int × Int × Int × Int × Int × Int × Int × Int) := apogeelaw13_Mission.l0 k a0 0 ([] : List (S42)) 2 3 4 2 50 2 10 a0
theorem apogeelaw13_Mission.mono_l : ∀ k, (∀ y0 y1 y2 y3 y4 y5 y6 y7 y8 y9 y10, LeO (apogeelaw13_Mission.l0 k y0 y1 y2 y3 y4 y5 y6 y7 y8 y9 y10) (apogeelaw13_Mission.l0 (k + 1) y0 y1 y2 y3 y4 y5 y6 y7 y8 y9 y10))
 | 0 => fun _ _ _ _ _ _ _ _ _ _ _ r h => by simp [apogeelaw13_Mission.l0] at h
 | k + 1 => by
  have ih0 := apogeelaw13_Mission.mono_l k
  ·intro y0 y1 y2 y3 y4 y5 y6 y7 y8 y9 y10
   unfold apogeelaw13_Mission.l0
   exact bMo
theorem apogeelaw13_Mission.mono : ∀ a0 k, LeO (apogeelaw13_Mission.f k a0) (apogeelaw13_Mission.f (k + 1) a0) := by
 intro a0 k
 have ih0 := apogeelaw13_Mission.mono_l k
 unfold apogeelaw13_Mission.f
 exact bMo
set_option maxHeartbeats 8000000 in
set_option maxRecDepth 100000 in
theorem apogeelaw13_Mission.calls (k : Nat) (a0 : Int) (r1 : List (S42)) (r2 : Int) (r3 : Int) (r4 : Int) (r5 : Int) (r6 : Int) (r7 : Int) (r8 : Int) (r9 : Int) (w : World) (h : apogeelaw13_Mission.f k a0 = some (r1, r2, r3, r4, r5, r6, r7, r8, r9)) :
  Calls Try.prog 44 #[.int .i64 a0] w fun e w' => ∃ v0_ : Value, e = .returned (.agg #[v0_, .int .i64 r2, .int .i64 r3, .int .i64 r4, .int .i64 r5, .int .i64 r6, .int .i64 r7, .int .i64 r8, .int .i64 r9]) ∧ Kd.S k42 42 w' w.heap.size (fun _ => True) v0_ r1 ∧ Below w.heap.size w w' := by
 have hu73 := Try.underlying73
 have hu28 := Try.underlying28
 have hu42 := Try.underlying42
 have HB := bA (Below.refl w.heap.size w)
 have H : (apogeelaw13_Mission.l0 k a0 0 ([] : List (S42)) 2 3 4 2 50 2 10 a0) = some (r1, r2, r3, r4, r5, r6, r7, r8, r9) := h
 clear h
 have H' := bA H
 clear H
 go_enter Try.func44, Try.ntmps44
 go_wp2_with (first | ((with_reducible refine gate_dst (N := 2) rfl ?_); refine bE (N := 2) (cs := #[.slice none 0 0, .int .i64 0, .int .i64 0, .int .i64 0, .int .i64 0, .int .i64 0, .int .i64 0, .int .i64 0, .int .i64 0]) (t := 73) ?_; intro gb101 hg w2 hbox hb; have BK101 := bA (hbox); have GW101 := bA (bZ hg); have GE101 := bA (bZ hg); replace HB := bA (bS hb); clear hb hbox hg) | ((with_reducible refine gate_dst (N := 3) rfl ?_); refine bE (N := 3) (cs := #[.slice none 0 0, .int .i64 0, .int .i64 0, .int .i64 0, .int .i64 0, .int .i64 0, .int .i64 0, .int .i64 0, .int .i64 0]) (t := 73) ?_; intro gb102 hg w3 hbox hb; have BK102 := bA (hbox); have GW102 := bA (bZ hg); have GE102 := bA (bZ hg); have NB101_102 := bA (bL BK101 hg); have NB102_101 := bA (bG BK101 hg); replace BK101 := bA (bB BK101 hb); replace HB := bA (bS hb); clear hb hbox hg; have hnb4 := NB102_101.out; have hnc4 := NB101_102.out; obtain ⟨hcz5_0, hcz5_1, hcz5_2, hcz5_3, hcz5_4, hcz5_5, hcz5_6, hcz5_7, hcz5_8, hfz5_0, hfz5_1, hfz5_2, hfz5_3, hfz5_4, hfz5_5, hfz5_6, hfz5_7, hfz5_8⟩ := bc9 BK102))
 go_loopg [7] k (fun kq v7 w' => ∃ (x7_1 : Int) (x103000_1 : List (S42)) (u103000 : Value), v7 = .int .i64 x7_1 ∧ Aside0 (apogeelaw13_Mission.l0 kq a0 x7_1 x103000_1 2 3 4 2 50 2 10 a0 = some (r1, r2, r3, r4, r5, r6, r7, r8, r9)) ∧ Aside0 (kq ≤ k) ∧ Aside0 (Kd.S k42 42 w' w.heap.size (fun _ => True) u103000 x103000_1) ∧ Aside0 (w'.heap[gb101]? = some (.cells #[(.slice none 0 0), .int .i64 0, .int .i64 0, .int .i64 0, .int .i64 0, .int .i64 0, .int .i64 0, .int .i64 0, .int .i64 0] 73 (0, 0))) ∧ Aside0 (w'.heap[gb102]? = some (.cells #[u103000, .int .i64 2, .int .i64 3, .int .i64 4, .int .i64 2, .int .i64 50, .int .i64 2, .int .i64 10, .int .i64 a0] 73 (0, 0))) ∧ Aside0 (Below w.heap.size w w'))
 case atStart => exact ⟨(0), (([] : List (S42))), (.slice none 0 0), bs, H', ⟨Nat.le_refl _⟩, ⟨by first | exact Kd.S_nil _ _ _ _ _ | exact Kd.N_nil _ _ _ _ _ | exact Kd.V_nil _ _ _ _ _ | exact Kd.Q_nil _ _ _ _ _ | exact Kd.R_nil _ _ _ _ _⟩, ⟨by (repeat ((with_reducible repeat (first | refine blk_drewN ?_ _ | refine blk_drew ?_ | refine blk_alloc ?_ _)); refine blk_far ?_ NB101_102.out _)); (with_reducible repeat (first | refine blk_drewN ?_ _ | refine blk_drew ?_ | refine blk_alloc ?_ _)); exact BK101.out⟩, ⟨by (with_reducible repeat (first | refine blk_drewN ?_ _ | refine blk_drew ?_ | refine blk_alloc ?_ _)); refine blk_put (cs := #[.slice none 0 0, .int .i64 2, .int .i64 3, .int .i64 4, .int .i64 2, .int .i64 50, .int .i64 2, .int .i64 10, .int .i64 0]) ?_ 8 _ rfl; (with_reducible repeat (first | refine blk_drewN ?_ _ | refine blk_drew ?_ | refine blk_alloc ?_ _)); refine blk_put (cs := #[.slice none 0 0, .int .i64 2, .int .i64 3, .int .i64 4, .int .i64 2, .int .i64 50, .int .i64 2, .int .i64 0, .int .i64 0]) ?_ 7 _ rfl; (with_reducible repeat (first | refine blk_drewN ?_ _ | refine blk_drew ?_ | refine blk_alloc ?_ _)); refine blk_put (cs := #[.slice none 0 0, .int .i64 2, .int .i64 3, .int .i64 4, .int .i64 2, .int .i64 50, .int .i64 0, .int .i64 0, .int .i64 0]) ?_ 6 _ rfl; (with_reducible repeat (first | refine blk_drewN ?_ _ | refine blk_drew ?_ | refine blk_alloc ?_ _)); refine blk_put (cs := #[.slice none 0 0, .int .i64 2, .int .i64 3, .int .i64 4, .int .i64 2, .int .i64 0, .int .i64 0, .int .i64 0, .int .i64 0]) ?_ 5 _ rfl; (with_reducible repeat (first | refine blk_drewN ?_ _ | refine blk_drew ?_ | refine blk_alloc ?_ _)); refine blk_put (cs := #[.slice none 0 0, .int .i64 2, .int .i64 3, .int .i64 4, .int .i64 0, .int .i64 0, .int .i64 0, .int .i64 0, .int .i64 0]) ?_ 4 _ rfl; (with_reducible repeat (first | refine blk_drewN ?_ _ | refine blk_drew ?_ | refine blk_alloc ?_ _)); refine blk_put (cs := #[.slice none 0 0, .int .i64 2, .int .i64 3, .int .i64 0, .int .i64 0, .int .i64 0, .int .i64 0, .int .i64 0, .int .i64 0]) ?_ 3 _ rfl; (with_reducible repeat (first | refine blk_drewN ?_ _ | refine blk_drew ?_ | refine blk_alloc ?_ _)); refine blk_put (cs := #[.slice none 0 0, .int .i64 2, .int .i64 0, .int .i64 0, .int .i64 0, .int .i64 0, .int .i64 0, .int .i64 0, .int .i64 0]) ?_ 2 _ rfl; (with_reducible repeat (first | refine blk_drewN ?_ _ | refine blk_drew ?_ | refine blk_alloc ?_ _)); refine blk_put (cs := #[.slice none 0 0, .int .i64 0, .int .i64 0, .int .i64 0, .int .i64 0, .int .i64 0, .int .i64 0, .int .i64 0, .int .i64 0]) ?_ 1 _ rfl; (with_reducible repeat (first | refine blk_drewN ?_ _ | refine blk_drew ?_ | refine blk_alloc ?_ _)); refine blk_put (cs := #[.slice none 0 0, .int .i64 0, .int .i64 0, .int .i64 0, .int .i64 0, .int .i64 0, .int .i64 0, .int .i64 0, .int .i64 0]) ?_ 0 _ rfl; (with_reducible repeat (first | refine blk_drewN ?_ _ | refine blk_drew ?_ | refine blk_alloc ?_ _)); exact BK102.out⟩, ⟨bX⟩⟩
 clear H'
 try clear p2
 try clear c4
 try clear hcz5_0
 try clear hcz5_1
 try clear hcz5_2
 try clear hcz5_3
 try clear hcz5_4
 try clear hcz5_5
 try clear hcz5_6
 try clear hcz5_7
 try clear hcz5_8
 try clear hfz5_0
 try clear hfz5_1
 try clear hfz5_2
 try clear hfz5_3
 try clear hfz5_4
 try clear hfz5_5
 try clear hfz5_6
 try clear hfz5_7
 try clear hfz5_8
 obtain ⟨x7_1, x103000_1, u103000, rfl, HA, HK1, HO_103000, BK101, BK102, HB⟩ := hrel
 cases gk with
 | zero => exact absurd HA.out (by simp [apogeelaw13_Mission.l0])
 | succ k1 =>
  have H := HA.out
  clear HA
  simp only [apogeelaw13_Mission.l0] at H
  by_cases c6 : x7_1 < a0
  rw [if_pos c6] at H
  have c6b0 : decide (x7_1 < a0) = true := decide_eq_true c6
  clear c6
  obtain ⟨y103, hy103⟩ : ∃ y_ : List (S28), y_ = (([(⟨(-1000), (-1000)⟩ : S28), (⟨1000, (-1000)⟩ : S28), (⟨1000, 1000⟩ : S28), (⟨(-1000), 1000⟩ : S28)] : List (S28))) := ⟨_, rfl⟩
  replace H : (if x103000_1.length < 2513169434916 then (apogeelaw13_Mission.l0 k1 a0 (wrap64 (x7_1 + 1)) (x103000_1 ++ [(⟨y103, 1, 200, 5, 100⟩ : S42)]) 2 3 4 2 50 2 10 a0) else (none)) = some (r1, r2, r3, r4, r5, r6, r7, r8, r9) := by first | (rw [hy103]; with_reducible exact H) | (have H2_ := (Option.bind_some _ _).symm.trans H; rw [hy103]; with_reducible exact H2_) | (have H2_ := (Option.bind_some _ _).symm.trans H; with_reducible exact H2_) | with_reducible exact H | (rw [hy103]; exact H) | exact H
  have Ny103 := bA hy103
  clear hy103
  by_cases c7 : x103000_1.length < 2513169434916
  rw [if_pos c7] at H
  have LMc7 := bA c7
  clear c7
  obtain ⟨y106, hy106⟩ : ∃ y_ : List (S42), y_ = (x103000_1 ++ [(⟨y103, 1, 200, 5, 100⟩ : S42)]) := ⟨_, rfl⟩
  replace H : (apogeelaw13_Mission.l0 k1 a0 (wrap64 (x7_1 + 1)) y106 2 3 4 2 50 2 10 a0) = some (r1, r2, r3, r4, r5, r6, r7, r8, r9) := by first | (rw [hy106]; with_reducible exact H) | (have H2_ := (Option.bind_some _ _).symm.trans H; rw [hy106]; with_reducible exact H2_) | (have H2_ := (Option.bind_some _ _).symm.trans H; with_reducible exact H2_) | with_reducible exact H | (rw [hy106]; exact H) | exact H
  have Ny106 := bA hy106
  clear hy106
  have H' := bA H
  clear H
  have hnb8 := NB102_101.out
  have hnc8 := NB101_102.out
  obtain ⟨hcz9_0, hcz9_1, hcz9_2, hcz9_3, hcz9_4, hcz9_5, hcz9_6, hcz9_7, hcz9_8, hfz9_0, hfz9_1, hfz9_2, hfz9_3, hfz9_4, hfz9_5, hfz9_6, hfz9_7, hfz9_8⟩ := bc9 BK102
  rotate_left
  rw [if_neg c7] at H
  exact absurd H (by simp)
  rw [if_neg c6] at H
  have c6b0 : decide (x7_1 < a0) = false := decide_eq_false c6
  clear c6
  simp only [Option.some.injEq, Prod.mk.injEq] at H
  obtain ⟨rfl, rfl, rfl, rfl, rfl, rfl, rfl, rfl, rfl⟩ := H
  have hnb16 := NB102_101.out
  have hnc16 := NB101_102.out
  obtain ⟨hcz17_0, hcz17_1, hcz17_2, hcz17_3, hcz17_4, hcz17_5, hcz17_6, hcz17_7, hcz17_8, hfz17_0, hfz17_1, hfz17_2, hfz17_3, hfz17_4, hfz17_5, hfz17_6, hfz17_7, hfz17_8⟩ := bc9 BK102
  obtain ⟨Ao18, co18, eo18⟩ := Kd.S_slice HO_103000.out
  subst eo18
  obtain ⟨hcz19_0, hcz19_1, hcz19_2, hcz19_3, hcz19_4, hcz19_5, hcz19_6, hcz19_7, hcz19_8, hfz19_0, hfz19_1, hfz19_2, hfz19_3, hfz19_4, hfz19_5, hfz19_6, hfz19_7, hfz19_8⟩ := bc9 BK101
  rotate_left
  all_goals go_wp2_with (first | ((with_reducible refine gate_dst (N := 15) rfl ?_); refine Kd.R_lit k28 _ 28 ?hg (N := 15) ?hd (xs := ([(⟨(-1000), (-1000)⟩ : S28), (⟨1000, (-1000)⟩ : S28), (⟨1000, 1000⟩ : S28), (⟨(-1000), 1000⟩ : S28)] : List (S28))) (inner := [.int .i64 (-1000), .int .i64 (-1000), .int .i64 1000, .int .i64 (-1000), .int .i64 1000, .int .i64 1000, .int .i64 (-1000), .int .i64 1000]) (ok := fun _ => True) (okp := fun _ => True) ?hr ?hp (fun _ hk => hk) trivial (Below.refl _ _) (Nat.le_refl _) (by simp) ?_; (case hd => rfl); (case hg => rfl); (case hr => first | (go_simp; done) | (go_simp; rfl)); (case hp => exact (Reps.c2 (show Kd.M k28 _ _ _ (⟨(-1000), (-1000)⟩ : S28) [.int .i64 (-1000), .int .i64 (-1000)] from (k28_mkM _ _ _ (⟨(-1000), (-1000)⟩ : S28) )) (Reps.c2 (show Kd.M k28 _ _ _ (⟨1000, (-1000)⟩ : S28) [.int .i64 1000, .int .i64 (-1000)] from (k28_mkM _ _ _ (⟨1000, (-1000)⟩ : S28) )) (Reps.c2 (show Kd.M k28 _ _ _ (⟨1000, 1000⟩ : S28) [.int .i64 1000, .int .i64 1000] from (k28_mkM _ _ _ (⟨1000, 1000⟩ : S28) )) (Reps.c2 (show Kd.M k28 _ _ _ (⟨(-1000), 1000⟩ : S28) [.int .i64 (-1000), .int .i64 1000] from (k28_mkM _ _ _ (⟨(-1000), 1000⟩ : S28) )) (Reps.none _ _)))))); intro v104 wz0 ho11 hb hg_ hnew_; clear hg_ hnew_; (first | rw [← Ny103.out] at ho11 | (simp only [Int.reduceToNat] at ho11; rw [← Ny103.out] at ho11)); have HO105 := bA (Kd.R_lower ho11 bY); replace HO_103000 := bA (Kd.S_elder' (by (with_reducible repeat (first | apply Kd.S_alloc | apply Kd.S_drewN | apply Kd.S_drew)); exact HO_103000.out) (Kd.R_base ho11) hb); replace BK101 := bA (bB BK101 hb); replace BK102 := bA (bB BK102 hb); replace HB := bA (bS hb); clear hb ho11; obtain ⟨Aoz1, coz2, eoz3⟩ := Kd.R_slice HO105.out; subst eoz3) | ((with_reducible refine gate_builtin (b := .append) (xs := #[.tmp 10, .tmp 17]) rfl ?_); at_builtin; refine Kd.S_append k42 (w0 := w) w.heap.size rfl (.tmp 10) (.tmp 17) 71 42 (.agg #[(.slice none 0 0), (.int .i64 0), (.int .i64 0), (.int .i64 0), (.int .i64 0)]) 56 rfl Try.underlying71 info42 rfl (by decide) (by omega) u103000 x103000_1 (⟨y103, 1, 200, 5, 100⟩ : S42) [.slice Aoz1 y103.length coz2, .int .i64 1, .int .i64 200, .int .i64 5, .int .i64 100] (fun _ => True) (fun k_ => some k_ = (.slice Aoz1 y103.length coz2 : Value).ownBlock) rfl rfl ?aP (fun k_ hk_ => ((Kd.R_mono (ok' := fun k_ => ((fun _ => True)) k_ ∧ some k_ ≠ (u103000 : Value).ownBlock) (Kd.R_apart' (HO105.out) (Kd.S_typed HO_103000.out) (by decide)) (fun k_ hk => ⟨trivial, hk.2⟩))).1 k_ hk_.symm) ?aF ?aO ?aB ?aS ?aL ?_; (case aP => exact k42_mkM _ _ _ (⟨y103, 1, 200, 5, 100⟩ : S42) (Kd.R_mono (Kd.R_tight rfl (Kd.R_mono (ok' := fun k_ => ((fun _ => True)) k_ ∧ some k_ ≠ (u103000 : Value).ownBlock) (Kd.R_apart' (HO105.out) (Kd.S_typed HO_103000.out) (by decide)) (fun k_ hk => ⟨trivial, hk.2⟩))) (fun _ h_ => h_))); (case aB => exact bX); (case aF => exact (fun _ _ => trivial)); (case aO => exact (by (with_reducible repeat (first | apply Kd.S_alloc | apply Kd.S_drewN | apply Kd.S_drew)); exact Kd.S_mono HO_103000.out (fun k_ hk => ⟨trivial, fun e_ => hk.2 e_⟩))); (case aS => exact bY); (case aL => have := LMc7.out; omega); intro v107 wz4 ho hb hg hat; rw [← Ny106.out] at ho; have HO108 := bA (ho); replace BK101 := bA (blk_grown (g := gb101) (o := .cells #[.slice none 0 0, .int .i64 0, .int .i64 0, .int .i64 0, .int .i64 0, .int .i64 0, .int .i64 0, .int .i64 0, .int .i64 0] 73 (0, 0)) (bP BK101) hg (Kd.S_ne HO_103000.out BK101.out (by decide))); replace BK102 := bA (blk_grown (g := gb102) (o := .cells #[u103000, .int .i64 2, .int .i64 3, .int .i64 4, .int .i64 2, .int .i64 50, .int .i64 2, .int .i64 10, .int .i64 a0] 73 (0, 0)) (bP BK102) hg (Kd.S_ne HO_103000.out BK102.out (by decide))); replace HB := bA (hb); clear HO_103000 HO105; clear ho hb hg hat; obtain ⟨Aoz5, coz6, eoz7⟩ := Kd.S_slice HO108.out; subst eoz7; obtain ⟨hz1, hz2, hz3, hz4, hz5, hz6, hz7, hz8, hz9, hz10, hz11, hz12, hz13, hz14, hz15, hz16, hz17, hz18⟩ := bc9 BK102))
  ·go_roundg k1
   case measure => have := HK1.out; omega
   case rel => exact ⟨(wrap64 (x7_1 + 1)), (y106), (.slice Aoz5 y106.length coz6), bs, H', ⟨by have := HK1.out; omega⟩, ⟨by (with_reducible repeat (first | apply Kd.S_alloc | apply Kd.S_drewN | apply Kd.S_drew)); exact Kd.S_mono (Kd.S_far (p := ⟨gb102, 0, none⟩) (Kd.S_types HO108.out BK102.out (by decide)) (fun _ hk => hk.2) (.slice Aoz5 y106.length coz6)) (fun _ hk => trivial)⟩, ⟨by (with_reducible repeat (first | refine blk_drewN ?_ _ | refine blk_drew ?_ | refine blk_alloc ?_ _)); refine blk_far ?_ NB101_102.out _; (with_reducible repeat (first | refine blk_drewN ?_ _ | refine blk_drew ?_ | refine blk_alloc ?_ _)); exact BK101.out⟩, ⟨by (with_reducible repeat (first | refine blk_drewN ?_ _ | refine blk_drew ?_ | refine blk_alloc ?_ _)); refine blk_put (cs := #[u103000, .int .i64 2, .int .i64 3, .int .i64 4, .int .i64 2, .int .i64 50, .int .i64 2, .int .i64 10, .int .i64 a0]) ?_ 0 _ rfl; (with_reducible repeat (first | refine blk_drewN ?_ _ | refine blk_drew ?_ | refine blk_alloc ?_ _)); exact BK102.out⟩, ⟨bX⟩⟩
  refine bodyPost_ret (results_cell_row rfl _ _ gb101 73 #[.slice Ao18 x103000_1.length co18, .int .i64 2, .int .i64 3, .int .i64 4, .int .i64 2, .int .i64 50, .int .i64 2, .int .i64 10, .int .i64 a0] (0, 0) _ rfl (by (with_reducible repeat (first | refine blk_drewN ?_ _ | refine blk_drew ?_ | refine blk_alloc ?_ _)); refine blk_put (cs := #[.slice Ao18 x103000_1.length co18, .int .i64 2, .int .i64 3, .int .i64 4, .int .i64 2, .int .i64 50, .int .i64 2, .int .i64 10, .int .i64 0]) ?_ 8 _ rfl; (with_reducible repeat (first | refine blk_drewN ?_ _ | refine blk_drew ?_ | refine blk_alloc ?_ _)); refine blk_put (cs := #[.slice Ao18 x103000_1.length co18, .int .i64 2, .int .i64 3, .int .i64 4, .int .i64 2, .int .i64 50, .int .i64 2, .int .i64 0, .int .i64 0]) ?_ 7 _ rfl; (with_reducible repeat (first | refine blk_drewN ?_ _ | refine blk_drew ?_ | refine blk_alloc ?_ _)); refine blk_put (cs := #[.slice Ao18 x103000_1.length co18, .int .i64 2, .int .i64 3, .int .i64 4, .int .i64 2, .int .i64 50, .int .i64 0, .int .i64 0, .int .i64 0]) ?_ 6 _ rfl; (with_reducible repeat (first | refine blk_drewN ?_ _ | refine blk_drew ?_ | refine blk_alloc ?_ _)); refine blk_put (cs := #[.slice Ao18 x103000_1.length co18, .int .i64 2, .int .i64 3, .int .i64 4, .int .i64 2, .int .i64 0, .int .i64 0, .int .i64 0, .int .i64 0]) ?_ 5 _ rfl; (with_reducible repeat (first | refine blk_drewN ?_ _ | refine blk_drew ?_ | refine blk_alloc ?_ _)); refine blk_put (cs := #[.slice Ao18 x103000_1.length co18, .int .i64 2, .int .i64 3, .int .i64 4, .int .i64 0, .int .i64 0, .int .i64 0, .int .i64 0, .int .i64 0]) ?_ 4 _ rfl; (with_reducible repeat (first | refine blk_drewN ?_ _ | refine blk_drew ?_ | refine blk_alloc ?_ _)); refine blk_put (cs := #[.slice Ao18 x103000_1.length co18, .int .i64 2, .int .i64 3, .int .i64 0, .int .i64 0, .int .i64 0, .int .i64 0, .int .i64 0, .int .i64 0]) ?_ 3 _ rfl; (with_reducible repeat (first | refine blk_drewN ?_ _ | refine blk_drew ?_ | refine blk_alloc ?_ _)); refine blk_put (cs := #[.slice Ao18 x103000_1.length co18, .int .i64 2, .int .i64 0, .int .i64 0, .int .i64 0, .int .i64 0, .int .i64 0, .int .i64 0, .int .i64 0]) ?_ 2 _ rfl; (with_reducible repeat (first | refine blk_drewN ?_ _ | refine blk_drew ?_ | refine blk_alloc ?_ _)); refine blk_put (cs := #[.slice Ao18 x103000_1.length co18, .int .i64 0, .int .i64 0, .int .i64 0, .int .i64 0, .int .i64 0, .int .i64 0, .int .i64 0, .int .i64 0]) ?_ 1 _ rfl; (with_reducible repeat (first | refine blk_drewN ?_ _ | refine blk_drew ?_ | refine blk_alloc ?_ _)); refine blk_put (cs := #[.slice none 0 0, .int .i64 0, .int .i64 0, .int .i64 0, .int .i64 0, .int .i64 0, .int .i64 0, .int .i64 0, .int .i64 0]) ?_ 0 _ rfl; (with_reducible repeat (first | refine blk_drewN ?_ _ | refine blk_drew ?_ | refine blk_alloc ?_ _)); exact BK101.out) Try.underlying73 rfl (by kernel_rfl)) rfl ?_
  exact ⟨_, by first | rfl | (simp [errW_none, errW_some] <;> rfl) | (simp [*, errW_none, errW_some] <;> rfl), by (with_reducible repeat (first | apply Kd.S_alloc | apply Kd.S_drewN | apply Kd.S_drew)); exact Kd.S_mono (Kd.S_far (p := ⟨gb101, 8, none⟩) (Kd.S_far (p := ⟨gb101, 7, none⟩) (Kd.S_far (p := ⟨gb101, 6, none⟩) (Kd.S_far (p := ⟨gb101, 5, none⟩) (Kd.S_far (p := ⟨gb101, 4, none⟩) (Kd.S_far (p := ⟨gb101, 3, none⟩) (Kd.S_far (p := ⟨gb101, 2, none⟩) (Kd.S_far (p := ⟨gb101, 1, none⟩) (Kd.S_far (p := ⟨gb101, 0, none⟩) (Kd.S_types HO_103000.out BK101.out (by decide)) (fun _ hk => hk.2) (.slice Ao18 x103000_1.length co18)) (fun _ hk => hk.2) (.int .i64 2)) (fun _ hk => hk.2) (.int .i64 3)) (fun _ hk => hk.2) (.int .i64 4)) (fun _ hk => hk.2) (.int .i64 2)) (fun _ hk => hk.2) (.int .i64 50)) (fun _ hk => hk.2) (.int .i64 2)) (fun _ hk => hk.2) (.int .i64 10)) (fun _ hk => hk.2) (.int .i64 a0)) (fun _ hk => trivial), by repeat (first | (with_reducible first | exact HB.out | apply below_alloc | apply pw_below_drewN | apply below_drew1 | refine below_set ?_ GE101.out | refine below_set ?_ GE102.out) | exact HB.out)⟩
/-! ### apogeelaw19_phase: function 28 -/
def apogeelaw19_phase.f (k : Nat)  : Option ((List (S28)) × Int × Int × Int × Int) := (apogeelaw13_Mission.f k 1).bind fun bt110 => (if 0 < (bt110.1.length : Int) then (some ((rd_T42 bt110.1 0).f0, (rd_T42 bt110.1 0).f1, (rd_T42 bt110.1 0).f2, (rd_T42 bt110.1 0).f3, (rd_T42 bt110.1 0).f4)) else (none))
theorem apogeelaw19_phase.mono : ∀ k, LeO (apogeelaw19_phase.f k ) (apogeelaw19_phase.f (k + 1) ) := by
 intro  k
 unfold apogeelaw19_phase.f
 have m0_ := @apogeelaw13_Mission.mono
 exact bMo
set_option maxHeartbeats 8000000 in
set_option maxRecDepth 100000 in
theorem apogeelaw19_phase.calls (k : Nat)  (r1 : List (S28)) (r2 : Int) (r3 : Int) (r4 : Int) (r5 : Int) (w : World) (h : apogeelaw19_phase.f k  = some (r1, r2, r3, r4, r5)) :
  Calls Try.prog 28 #[] w fun e w' => ∃ v0_ : Value, e = .returned (.agg #[v0_, .int .i64 r2, .int .i64 r3, .int .i64 r4, .int .i64 r5]) ∧ Kd.R k28 28 w' w.heap.size (fun _ => True) v0_ r1 ∧ Below w.heap.size w w' := by
 have hu42 := Try.underlying42
 have hfd73_0 : ∀ (c0_ c1_ c2_ c3_ c4_ c5_ c6_ c7_ c8_ : Value) (w : World), (Instr.field 73 (.agg #[c0_, c1_, c2_, c3_, c4_, c5_, c6_, c7_, c8_]) 0).run Try.prog w = .ok c0_ w := fun _ _ _ _ _ _ _ _ _ _ => by kernel_rfl
 have hu73 := Try.underlying73
 have HB := bA (Below.refl w.heap.size w)
 have H : ((apogeelaw13_Mission.f k 1).bind fun bt110 => (if 0 < (bt110.1.length : Int) then (some ((rd_T42 bt110.1 0).f0, (rd_T42 bt110.1 0).f1, (rd_T42 bt110.1 0).f2, (rd_T42 bt110.1 0).f3, (rd_T42 bt110.1 0).f4)) else (none))) = some (r1, r2, r3, r4, r5) := h
 clear h
 replace H := Option.bind_eq_some_iff.mp H
 obtain ⟨⟨t110, t113, t114, t115, t116, t117, t118, t119, t120⟩, A10, H⟩ := H
 replace H : (if 0 < (t110.length : Int) then (some ((rd_T42 t110 0).f0, (rd_T42 t110 0).f1, (rd_T42 t110 0).f2, (rd_T42 t110 0).f3, (rd_T42 t110 0).f4)) else (none)) = some (r1, r2, r3, r4, r5) := H
 have A1 := bA A10
 clear A10
 by_cases c2 : 0 < (t110.length : Int)
 rotate_left
 ·rw [if_neg c2] at H
  exact absurd H (by simp)
 rw [if_pos c2] at H
 have c2b0 : decide (0 < (t110.length : Int)) = true := decide_eq_true c2
 have c2b1 : decide (0 < t110.length) = true := decide_eq_true (by omega)
 clear c2
 simp only [Option.some.injEq, Prod.mk.injEq] at H
 obtain ⟨rfl, rfl, rfl, rfl, rfl⟩ := H
 go_enter Try.func28, Try.ntmps28
 go_wp2_with (first | ((with_reducible refine gate_dst (N := 0) rfl ?_); refine bE (N := 0) (cs := #[.slice none 0 0, .int .i64 0, .int .i64 0, .int .i64 0, .int .i64 0]) (t := 42) ?_; intro gb109 hg w3 hbox hb; have BK109 := bA (hbox); have GW109 := bA (bZ hg); have GE109 := bA (bZ hg); replace HB := bA (bS hb); clear hb hbox hg) | ((first | ((with_reducible refine gate_callee (f := 44) rfl ?_); refine bC (some 1) Try.func44 #[.int .i64 1] ?_) | go_at_call 44); (with_reducible refine (apogeelaw13_Mission.calls k 1 t110 t113 t114 t115 t116 t117 t118 t119 t120 _ A1.out).mono ?_); rintro e w4 ⟨v111, rfl, ho0, hb⟩; (first | refine ⟨_, rfl, ?_⟩ | skip); have HO112 := bA (Kd.S_lower (Kd.S_newB ho0 (g := gb109) (o := .cells #[.slice none 0 0, .int .i64 0, .int .i64 0, .int .i64 0, .int .i64 0] 42 (0, 0)) (bP BK109)) bY); replace BK109 := bA (bB BK109 hb); replace HB := bA (bS hb); (try clear hb); (try clear ho0); obtain ⟨Ao5, co5, eo5⟩ := Kd.S_slice HO112.out; subst eo5; have p121 : 0 ≤ (0 : Int) := (by omega); have q121 : 0 < (t110.length : Int) := bo; obtain ⟨ad121, A121_0, c121_0, e121, hx121_0, hx121_1, hx121_2, hx121_3, hx121_4, hl121_0, hi121_0⟩ := at_T42 (Kd.S_reads' HO112.out).2.2 0 p121 q121; cases e121; obtain ⟨ce121, hce121, hMe121, hcc121⟩ := Kd.S_get HO112.out z42 0 p121 (by first | exact q121 | exact bo | (have e_ := (Kd.S_reads' HO112.out).1; omega)); obtain ⟨ve121_0, rfl, ge121_0⟩ := k42_openM hMe121; have hv121_0 := hcc121 0 _ rfl; rw [Nat.add_zero] at hv121_0; replace hv121_0 := Option.some.inj (hv121_0.symm.trans hx121_0); rw [hv121_0] at ge121_0; have HL121_0 := bA (show Kd.R k28 28 _ _ _ _ ((rd_T42 t110 0).f0) from ge121_0); clear hv121_0 ge121_0; clear hcc121 hce121; have qi121 : (0 < t110.length) = True := eq_true (by omega); (try rw [show ((0 : Int)).toNat = 0 from rfl] at hx121_0); (try rw [show 0 * 5 = 0 from rfl] at hx121_0); (try rw [Addr.add_zero'] at hx121_0); (try rw [show ((0 : Int)).toNat = 0 from rfl] at hx121_1); (try rw [show 0 * 5 = 0 from rfl] at hx121_1); (try rw [Addr.add_zero'] at hx121_1); (try rw [show ((0 : Int)).toNat = 0 from rfl] at hx121_2); (try rw [show 0 * 5 = 0 from rfl] at hx121_2); (try rw [Addr.add_zero'] at hx121_2); (try rw [show ((0 : Int)).toNat = 0 from rfl] at hx121_3); (try rw [show 0 * 5 = 0 from rfl] at hx121_3); (try rw [Addr.add_zero'] at hx121_3); (try rw [show ((0 : Int)).toNat = 0 from rfl] at hx121_4); (try rw [show 0 * 5 = 0 from rfl] at hx121_4); (try rw [Addr.add_zero'] at hx121_4); have HR121_0 := bA hi121_0; have HC121_0 := bA hl121_0; clear hi121_0 hl121_0; replace p121 := eq_true p121; replace q121 := eq_true q121; obtain ⟨hcz6_0, hcz6_1, hcz6_2, hcz6_3, hcz6_4, hfz6_0, hfz6_1, hfz6_2, hfz6_3, hfz6_4⟩ := bc5 BK109))
 refine bodyPost_ret (results_cell_row rfl _ _ gb109 42 #[.slice A121_0 ((rd_T42 t110 0).f0).length c121_0, .int .i64 ((rd_T42 t110 0).f1), .int .i64 ((rd_T42 t110 0).f2), .int .i64 ((rd_T42 t110 0).f3), .int .i64 ((rd_T42 t110 0).f4)] (0, 0) _ rfl (by (with_reducible repeat (first | refine blk_drewN ?_ _ | refine blk_drew ?_ | refine blk_alloc ?_ _)); refine blk_put (cs := #[.slice A121_0 ((rd_T42 t110 0).f0).length c121_0, .int .i64 ((rd_T42 t110 0).f1), .int .i64 ((rd_T42 t110 0).f2), .int .i64 ((rd_T42 t110 0).f3), .int .i64 0]) ?_ 4 _ rfl; (with_reducible repeat (first | refine blk_drewN ?_ _ | refine blk_drew ?_ | refine blk_alloc ?_ _)); refine blk_put (cs := #[.slice A121_0 ((rd_T42 t110 0).f0).length c121_0, .int .i64 ((rd_T42 t110 0).f1), .int .i64 ((rd_T42 t110 0).f2), .int .i64 0, .int .i64 0]) ?_ 3 _ rfl; (with_reducible repeat (first | refine blk_drewN ?_ _ | refine blk_drew ?_ | refine blk_alloc ?_ _)); refine blk_put (cs := #[.slice A121_0 ((rd_T42 t110 0).f0).length c121_0, .int .i64 ((rd_T42 t110 0).f1), .int .i64 0, .int .i64 0, .int .i64 0]) ?_ 2 _ rfl; (with_reducible repeat (first | refine blk_drewN ?_ _ | refine blk_drew ?_ | refine blk_alloc ?_ _)); refine blk_put (cs := #[.slice A121_0 ((rd_T42 t110 0).f0).length c121_0, .int .i64 0, .int .i64 0, .int .i64 0, .int .i64 0]) ?_ 1 _ rfl; (with_reducible repeat (first | refine blk_drewN ?_ _ | refine blk_drew ?_ | refine blk_alloc ?_ _)); refine blk_put (cs := #[.slice none 0 0, .int .i64 0, .int .i64 0, .int .i64 0, .int .i64 0]) ?_ 0 _ rfl; (with_reducible repeat (first | refine blk_drewN ?_ _ | refine blk_drew ?_ | refine blk_alloc ?_ _)); exact BK109.out) Try.underlying42 rfl (by kernel_rfl)) rfl ?_
 exact ⟨_, by first | rfl | (simp [errW_none, errW_some] <;> rfl) | (simp [*, errW_none, errW_some] <;> rfl), by (with_reducible repeat (first | apply Kd.R_alloc | apply Kd.R_drewN | apply Kd.R_drew)); exact Kd.R_mono (Kd.R_far (p := ⟨gb109, 4, none⟩) (Kd.R_far (p := ⟨gb109, 3, none⟩) (Kd.R_far (p := ⟨gb109, 2, none⟩) (Kd.R_far (p := ⟨gb109, 1, none⟩) (Kd.R_far (p := ⟨gb109, 0, none⟩) (Kd.R_types HL121_0.out BK109.out (by decide)) (fun _ hk => hk.2) (.slice A121_0 ((rd_T42 t110 0).f0).length c121_0)) (fun _ hk => hk.2) (.int .i64 ((rd_T42 t110 0).f1))) (fun _ hk => hk.2) (.int .i64 ((rd_T42 t110 0).f2))) (fun _ hk => hk.2) (.int .i64 ((rd_T42 t110 0).f3))) (fun _ hk => hk.2) (.int .i64 ((rd_T42 t110 0).f4))) (fun _ hk => trivial), by repeat (first | (with_reducible first | exact HB.out | apply below_alloc | apply pw_below_drewN | apply below_drew1 | refine below_set ?_ GE109.out) | exact HB.out)⟩
/-! ### fall_within: function 36 -/
def fall_within.f (a0 : Int) (a1 : Int) (a2 : Int) : Option (Bool) := if a0 ≥ a1 then (some (decide (a0 ≤ a2))) else (some false)
set_option maxHeartbeats 8000000 in
set_option maxRecDepth 100000 in
theorem fall_within.calls (a0 : Int) (a1 : Int) (a2 : Int) (r : Bool) (w : World) (h : fall_within.f a0 a1 a2 = some r) :
  Calls Try.prog 36 #[.int .i64 a0, .int .i64 a1, .int .i64 a2] w fun e w' => e = .returned (.bool r) ∧ Drawn0 w w' := by
 have H : (if a0 ≥ a1 then (some (decide (a0 ≤ a2))) else (some false)) = some r := h
 clear h
 by_cases c4 : a0 ≥ a1
 rw [if_pos c4] at H
 have c4b0 : decide (a1 ≤ a0) = true := decide_eq_true c4
 clear c4
 obtain rfl := Option.some.inj H
 rotate_left
 rw [if_neg c4] at H
 have c4b0 : decide (a1 ≤ a0) = false := decide_eq_false c4
 clear c4
 obtain rfl := Option.some.inj H
 rotate_left
 all_goals go_enter Try.func36, Try.ntmps36
 all_goals go_wp2
 all_goals (go_ret; exact bD)
/-! ### fall_may: function 37 -/
def fall_may.f (a0 : Int) (a1 : Int) (a2 : Int) : Option (Bool) := (fall_within.f a0 (-2147483648) 2147483648).bind fun t122 => (if t122 = true then ((fall_within.f a1 (-131072) 131072).bind fun t123 => (if t123 = true then ((fall_within.f a2 1 100).bind fun t124 => (some t124)) else (some false))) else (some false))
set_option maxHeartbeats 8000000 in
set_option maxRecDepth 100000 in
theorem fall_may.calls (a0 : Int) (a1 : Int) (a2 : Int) (r : Bool) (w : World) (h : fall_may.f a0 a1 a2 = some r) :
  Calls Try.prog 37 #[.int .i64 a0, .int .i64 a1, .int .i64 a2] w fun e w' => e = .returned (.bool r) ∧ Drawn0 w w' := by
 have H : ((fall_within.f a0 (-2147483648) 2147483648).bind fun t122 => (if t122 = true then ((fall_within.f a1 (-131072) 131072).bind fun t123 => (if t123 = true then ((fall_within.f a2 1 100).bind fun t124 => (some t124)) else (some false))) else (some false))) = some r := h
 clear h
 replace H := Option.bind_eq_some_iff.mp H
 obtain ⟨t122, A40, H⟩ := H
 have A4 := bA A40
 clear A40
 by_cases c5 : t122 = true
 subst c5
 rw [if_pos rfl] at H
 replace H := Option.bind_eq_some_iff.mp H
 obtain ⟨t123, A60, H⟩ := H
 have A6 := bA A60
 clear A60
 by_cases c7 : t123 = true
 subst c7
 rw [if_pos rfl] at H
 replace H := Option.bind_eq_some_iff.mp H
 obtain ⟨t124, A80, H⟩ := H
 have A8 := bA A80
 clear A80
 obtain rfl := Option.some.inj H
 rotate_left
 replace c7 := Bool.eq_false_iff.mpr c7
 subst c7
 rw [if_neg bn] at H
 obtain rfl := Option.some.inj H
 rotate_left
 replace c5 := Bool.eq_false_iff.mpr c5
 subst c5
 rw [if_neg bn] at H
 obtain rfl := Option.some.inj H
 rotate_left
 all_goals go_enter Try.func37, Try.ntmps37
 all_goals go_wp2_with (first | ((first | ((with_reducible refine gate_callee (f := 36) rfl ?_); refine bC (some 8) Try.func36 #[.int .i64 a0, .int .i64 (-2147483648), .int .i64 2147483648] ?_) | go_at_call 36); (with_reducible refine (fall_within.calls a0 (-2147483648) 2147483648 true _ A4.out).mono ?_); rintro e w' ⟨rfl, ⟨nd, rfl⟩⟩; (first | refine ⟨_, rfl, ?_⟩ | skip)) | (go_at_call 36; (with_reducible refine (fall_within.calls a1 (-131072) 131072 true _ A6.out).mono ?_); rintro e w' ⟨rfl, ⟨nd, rfl⟩⟩) | (go_at_call 36; (with_reducible refine (fall_within.calls a2 1 100 t124 _ A8.out).mono ?_); rintro e w' ⟨rfl, ⟨nd, rfl⟩⟩) | (go_at_call 36; (with_reducible refine (fall_within.calls a1 (-131072) 131072 false _ A6.out).mono ?_); rintro e w' ⟨rfl, ⟨nd, rfl⟩⟩) | ((first | ((with_reducible refine gate_callee (f := 36) rfl ?_); refine bC (some 8) Try.func36 #[.int .i64 a0, .int .i64 (-2147483648), .int .i64 2147483648] ?_) | go_at_call 36); (with_reducible refine (fall_within.calls a0 (-2147483648) 2147483648 false _ A4.out).mono ?_); rintro e w' ⟨rfl, ⟨nd, rfl⟩⟩; (first | refine ⟨_, rfl, ?_⟩ | skip)))
 all_goals (go_ret; exact bD)
/-! ### wide_Of: function 55 -/
def wide_Of.f (a0 : Int) : Option (Int × Int) := some (a0 / 9223372036854775808, IntKind.u64.wrap (a0))
set_option maxHeartbeats 8000000 in
set_option maxRecDepth 100000 in
theorem wide_Of.calls (a0 : Int) (r1 : Int) (r2 : Int) (w : World) (h : wide_Of.f a0 = some (r1, r2)) :
  Calls Try.prog 55 #[.int .i64 a0] w fun e w' => e = .returned (.agg #[.int .i64 r1, .int .u64 r2]) ∧ Below w.heap.size w w' := by
 have hu84 := Try.underlying84
 have HB := bA (Below.refl w.heap.size w)
 have H : (some (a0 / 9223372036854775808, IntKind.u64.wrap (a0))) = some (r1, r2) := h
 clear h
 simp only [Option.some.injEq, Prod.mk.injEq] at H
 obtain ⟨rfl, rfl⟩ := H
 go_enter Try.func55, Try.ntmps55
 go_wp2_with (first | ((with_reducible refine gate_dst (N := 2) rfl ?_); refine bE (N := 2) (cs := #[.int .i64 0, .int .u64 0]) (t := 84) ?_; intro gb125 hg w2 hbox hb; have BK125 := bA (hbox); have GW125 := bA (bZ hg); have GE125 := bA (bZ hg); replace HB := bA (bS hb); clear hb hbox hg; obtain ⟨hcz3_0, hcz3_1, hfz3_0, hfz3_1⟩ := bc2 BK125))
 refine bodyPost_ret (results_cell_row rfl _ _ gb125 84 #[.int .i64 (a0 / 9223372036854775808), .int .u64 (IntKind.u64.wrap (a0))] (0, 0) _ rfl (by (with_reducible repeat (first | refine blk_drewN ?_ _ | refine blk_drew ?_ | refine blk_alloc ?_ _)); refine blk_put (cs := #[.int .i64 (a0 / 9223372036854775808), .int .u64 0]) ?_ 1 _ rfl; (with_reducible repeat (first | refine blk_drewN ?_ _ | refine blk_drew ?_ | refine blk_alloc ?_ _)); refine blk_put (cs := #[.int .i64 0, .int .u64 0]) ?_ 0 _ rfl; (with_reducible repeat (first | refine blk_drewN ?_ _ | refine blk_drew ?_ | refine blk_alloc ?_ _)); exact BK125.out) Try.underlying84 rfl (by kernel_rfl)) rfl ?_
 exact bF
/-! ### bits_Mul64: function 93 -/
def bits_Mul64.f (a0 : Int) (a1 : Int) : Option (Int × Int) := some (IntKind.u64.wrap ((IntKind.u64.wrap ((IntKind.u64.wrap ((a0 / 4294967296) * (a1 / 4294967296))) + ((IntKind.u64.wrap ((IntKind.u64.wrap ((a0 / 4294967296) * (Go.bits .and .u64 a1 4294967295))) + ((IntKind.u64.wrap ((Go.bits .and .u64 a0 4294967295) * (Go.bits .and .u64 a1 4294967295))) / 4294967296))) / 4294967296))) + ((IntKind.u64.wrap ((Go.bits .and .u64 (IntKind.u64.wrap ((IntKind.u64.wrap ((a0 / 4294967296) * (Go.bits .and .u64 a1 4294967295))) + ((IntKind.u64.wrap ((Go.bits .and .u64 a0 4294967295) * (Go.bits .and .u64 a1 4294967295))) / 4294967296))) 4294967295) + (IntKind.u64.wrap ((Go.bits .and .u64 a0 4294967295) * (a1 / 4294967296))))) / 4294967296)), IntKind.u64.wrap (a0 * a1))
set_option maxHeartbeats 8000000 in
set_option maxRecDepth 100000 in
theorem bits_Mul64.calls (a0 : Int) (a1 : Int) (r1 : Int) (r2 : Int) (w : World) (h : bits_Mul64.f a0 a1 = some (r1, r2)) :
  Calls Try.prog 93 #[.int .u64 a0, .int .u64 a1] w fun e w' => e = .returned (.tuple #[.int .u64 r1, .int .u64 r2]) ∧ Drawn0 w w' := by
 have H : (some (IntKind.u64.wrap ((IntKind.u64.wrap ((IntKind.u64.wrap ((a0 / 4294967296) * (a1 / 4294967296))) + ((IntKind.u64.wrap ((IntKind.u64.wrap ((a0 / 4294967296) * (Go.bits .and .u64 a1 4294967295))) + ((IntKind.u64.wrap ((Go.bits .and .u64 a0 4294967295) * (Go.bits .and .u64 a1 4294967295))) / 4294967296))) / 4294967296))) + ((IntKind.u64.wrap ((Go.bits .and .u64 (IntKind.u64.wrap ((IntKind.u64.wrap ((a0 / 4294967296) * (Go.bits .and .u64 a1 4294967295))) + ((IntKind.u64.wrap ((Go.bits .and .u64 a0 4294967295) * (Go.bits .and .u64 a1 4294967295))) / 4294967296))) 4294967295) + (IntKind.u64.wrap ((Go.bits .and .u64 a0 4294967295) * (a1 / 4294967296))))) / 4294967296)), IntKind.u64.wrap (a0 * a1))) = some (r1, r2) := h
 clear h
 simp only [Option.some.injEq, Prod.mk.injEq] at H
 obtain ⟨rfl, rfl⟩ := H
 go_enter Try.func93, Try.ntmps93
 go_wp2
 go_ret2
 exact bD
/-! ### wide_above: function 90 -/
def wide_above.f (a0 : Int) (a1_0 : Int) (a1_1 : Int) : Option (Bool) := (bits_Mul64.f a0 a0).bind fun bt127 => (if bt127.1 > (IntKind.u64.wrap (a1_0)) then (some true) else (if bt127.1 = (IntKind.u64.wrap (a1_0)) then (some (decide (bt127.2 > a1_1))) else (some false)))
set_option maxHeartbeats 8000000 in
set_option maxRecDepth 100000 in
theorem wide_above.calls (a0 : Int) (a1_0 : Int) (a1_1 : Int) (r : Bool) (w : World) (h : wide_above.f a0 a1_0 a1_1 = some r) :
  Calls Try.prog 90 #[.int .u64 a0, .agg #[.int .i64 a1_0, .int .u64 a1_1]] w fun e w' => e = .returned (.bool r) ∧ Below w.heap.size w w' := by
 have hu84 := Try.underlying84
 have HB := bA (Below.refl w.heap.size w)
 have H : ((bits_Mul64.f a0 a0).bind fun bt127 => (if bt127.1 > (IntKind.u64.wrap (a1_0)) then (some true) else (if bt127.1 = (IntKind.u64.wrap (a1_0)) then (some (decide (bt127.2 > a1_1))) else (some false)))) = some r := h
 clear h
 replace H := Option.bind_eq_some_iff.mp H
 obtain ⟨⟨t127, t128⟩, A30, H⟩ := H
 replace H : (if t127 > (IntKind.u64.wrap (a1_0)) then (some true) else (if t127 = (IntKind.u64.wrap (a1_0)) then (some (decide (t128 > a1_1))) else (some false))) = some r := H
 have A3 := bA A30
 clear A30
 by_cases c4 : t127 > (IntKind.u64.wrap (a1_0))
 rw [if_pos c4] at H
 have c4b0 : decide ((IntKind.u64.wrap (a1_0)) < t127) = true := decide_eq_true c4
 clear c4
 obtain rfl := Option.some.inj H
 rotate_left
 rw [if_neg c4] at H
 have c4b0 : decide ((IntKind.u64.wrap (a1_0)) < t127) = false := decide_eq_false c4
 clear c4
 by_cases c7 : t127 = (IntKind.u64.wrap (a1_0))
 rw [if_pos c7] at H
 have c7b0 : (t127 == (IntKind.u64.wrap (a1_0))) = true := beq_iff_eq.mpr c7
 have c7b1 : (t127 != (IntKind.u64.wrap (a1_0))) = false := bne_eq_false_iff_eq.mpr c7
 clear c7
 obtain rfl := Option.some.inj H
 rotate_left
 rw [if_neg c7] at H
 have c7b0 : (t127 == (IntKind.u64.wrap (a1_0))) = false := beq_eq_false_iff_ne.mpr c7
 have c7b1 : (t127 != (IntKind.u64.wrap (a1_0))) = true := bne_iff_ne.mpr c7
 obtain rfl := Option.some.inj H
 rotate_left
 all_goals go_enter Try.func90, Try.ntmps90
 all_goals go_wp2_with (first | ((with_reducible refine gate_dst (N := 3) rfl ?_); refine bE (N := 3) (cs := #[.int .i64 a1_0, .int .u64 a1_1]) (t := 84) ?_; intro gb126 hg wz0 hbox hb; have BK126 := bA (hbox); have GW126 := bA (bZ hg); have GE126 := bA (bZ hg); replace HB := bA (bS hb); clear hb hbox hg) | ((first | ((with_reducible refine gate_callee (f := 93) rfl ?_); refine bC (some 10) Try.func93 #[.int .u64 a0, .int .u64 a0] ?_) | go_at_call 93); (with_reducible refine (bits_Mul64.calls a0 a0 t127 t128 _ A3.out).mono ?_); rintro e w' ⟨rfl, ⟨nd, rfl⟩⟩; (first | refine ⟨_, rfl, ?_⟩ | skip); obtain ⟨hz1, hz2, hz3, hz4⟩ := bc2 BK126))
 all_goals (go_ret; exact bF)
/-! ### wide_Wide_Sqrt: function 79 -/
def wide_Wide_Sqrt.l0 : Nat → Int → Int → Int → Int → Option (Int × Bool)
 | 0, _, _, _, _ => none
 | k + 1, x4, x5, x130000, x130001 => if x5 > 0 then ((wide_above.f (Go.bits .or .u64 x4 x5) x130000 x130001).bind fun t130 => (if t130 = true then (wide_Wide_Sqrt.l0 k x4 (x5 / 2) x130000 x130001) else (wide_Wide_Sqrt.l0 k (Go.bits .or .u64 x4 x5) (x5 / 2) x130000 x130001))) else (some (x4, true))
def wide_Wide_Sqrt.f (k : Nat) (a0_0 : Int) (a0_1 : Int) : Option (Int × Bool) := if a0_0 < 0 then (some (0, false)) else (wide_Wide_Sqrt.l0 k 0 9223372036854775808 a0_0 a0_1)
theorem wide_Wide_Sqrt.mono_l : ∀ k, (∀ y0 y1 y2 y3, LeO (wide_Wide_Sqrt.l0 k y0 y1 y2 y3) (wide_Wide_Sqrt.l0 (k + 1) y0 y1 y2 y3))
 | 0 => fun _ _ _ _ r h => by simp [wide_Wide_Sqrt.l0] at h
 | k + 1 => by
  have ih0 := wide_Wide_Sqrt.mono_l k
  ·intro y0 y1 y2 y3
   unfold wide_Wide_Sqrt.l0
   exact bMo
theorem wide_Wide_Sqrt.mono : ∀ a0 a1 k, LeO (wide_Wide_Sqrt.f k a0 a1) (wide_Wide_Sqrt.f (k + 1) a0 a1) := by
 intro a0 a1 k
 have ih0 := wide_Wide_Sqrt.mono_l k
 unfold wide_Wide_Sqrt.f
 exact bMo
set_option maxHeartbeats 8000000 in
set_option maxRecDepth 100000 in
theorem wide_Wide_Sqrt.calls (k : Nat) (a0_0 : Int) (a0_1 : Int) (r1 : Int) (r2 : Bool) (w : World) (h : wide_Wide_Sqrt.f k a0_0 a0_1 = some (r1, r2)) :
  Calls Try.prog 79 #[.agg #[.int .i64 a0_0, .int .u64 a0_1]] w fun e w' => e = .returned (.tuple #[.int .u64 r1, .bool r2]) ∧ Below w.heap.size w w' := by
 have hu84 := Try.underlying84
 have HB := bA (Below.refl w.heap.size w)
 have H : (if a0_0 < 0 then (some (0, false)) else (wide_Wide_Sqrt.l0 k 0 9223372036854775808 a0_0 a0_1)) = some (r1, r2) := h
 clear h
 by_cases c2 : a0_0 < 0
 ·rw [if_pos c2] at H
  have c2b0 : decide (a0_0 < 0) = true := decide_eq_true c2
  clear c2
  simp only [Option.some.injEq, Prod.mk.injEq] at H
  obtain ⟨rfl, rfl⟩ := H
  go_enter Try.func79, Try.ntmps79
  go_wp2_with (first | ((with_reducible refine gate_dst (N := 1) rfl ?_); refine bE (N := 1) (cs := #[.int .i64 a0_0, .int .u64 a0_1]) (t := 84) ?_; intro gb129 hg w3 hbox hb; have BK129 := bA (hbox); have GW129 := bA (bZ hg); have GE129 := bA (bZ hg); replace HB := bA (bS hb); clear hb hbox hg; obtain ⟨hcz4_0, hcz4_1, hfz4_0, hfz4_1⟩ := bc2 BK129))
  go_ret2
  exact bF
 rw [if_neg c2] at H
 have c2b0 : decide (a0_0 < 0) = false := decide_eq_false c2
 clear c2
 have H' := bA H
 clear H
 go_enter Try.func79, Try.ntmps79
 go_wp2_with (first | ((with_reducible refine gate_dst (N := 1) rfl ?_); refine bE (N := 1) (cs := #[.int .i64 a0_0, .int .u64 a0_1]) (t := 84) ?_; intro gb129 hg w5 hbox hb; have BK129 := bA (hbox); have GW129 := bA (bZ hg); have GE129 := bA (bZ hg); replace HB := bA (bS hb); clear hb hbox hg; obtain ⟨hcz6_0, hcz6_1, hfz6_0, hfz6_1⟩ := bc2 BK129))
 go_loopg [4, 5] k (fun kq v4 v5 w' => ∃ (x4_1 : Int) (x5_1 : Int), v4 = .int .u64 x4_1 ∧ v5 = .int .u64 x5_1 ∧ Aside0 (wide_Wide_Sqrt.l0 kq x4_1 x5_1 a0_0 a0_1 = some (r1, r2)) ∧ Aside0 (kq ≤ k) ∧ Aside0 (w'.heap[gb129]? = some (.cells #[.int .i64 a0_0, .int .u64 a0_1] 84 (0, 0))) ∧ Aside0 (Below w.heap.size w w'))
 case atStart => exact ⟨(0), (9223372036854775808), bs, bs, H', ⟨Nat.le_refl _⟩, ⟨by (with_reducible repeat (first | refine blk_drewN ?_ _ | refine blk_drew ?_ | refine blk_alloc ?_ _)); exact BK129.out⟩, ⟨bX⟩⟩
 clear H'
 try clear c2
 try clear c2b0
 try clear p2
 try clear hcz4_0
 try clear hcz4_1
 try clear hcz6_0
 try clear hcz6_1
 try clear hfz4_0
 try clear hfz4_1
 try clear hfz6_0
 try clear hfz6_1
 obtain ⟨x4_1, x5_1, rfl, rfl, HA, HK1, BK129, HB⟩ := hrel
 cases gk with
 | zero => exact absurd HA.out (by simp [wide_Wide_Sqrt.l0])
 | succ k1 =>
  have H := HA.out
  clear HA
  simp only [wide_Wide_Sqrt.l0] at H
  by_cases c7 : x5_1 > 0
  rw [if_pos c7] at H
  have c7b0 : decide (0 < x5_1) = true := decide_eq_true c7
  clear c7
  replace H := Option.bind_eq_some_iff.mp H
  obtain ⟨t130, A80, H⟩ := H
  have A8 := bA A80
  clear A80
  by_cases c9 : t130 = true
  subst c9
  rw [if_pos rfl] at H
  have H' := bA H
  clear H
  obtain ⟨hcz10_0, hcz10_1, hfz10_0, hfz10_1⟩ := bc2 BK129
  rotate_left
  replace c9 := Bool.eq_false_iff.mpr c9
  subst c9
  rw [if_neg bn] at H
  have H' := bA H
  clear H
  obtain ⟨hcz12_0, hcz12_1, hfz12_0, hfz12_1⟩ := bc2 BK129
  rotate_left
  rw [if_neg c7] at H
  have c7b0 : decide (0 < x5_1) = false := decide_eq_false c7
  clear c7
  simp only [Option.some.injEq, Prod.mk.injEq] at H
  obtain ⟨rfl, rfl⟩ := H
  rotate_left
  all_goals go_wp2_with (first | ((first | ((with_reducible refine gate_callee (f := 90) rfl ?_); refine bC (some 17) Try.func90 #[.int .u64 (Go.bits .or .u64 x4_1 x5_1), .agg #[.int .i64 a0_0, .int .u64 a0_1]] ?_) | go_at_call 90); (with_reducible refine (wide_above.calls (Go.bits .or .u64 x4_1 x5_1) a0_0 a0_1 true _ A8.out).mono ?_); rintro e wz0 ⟨rfl, hb⟩; (first | refine ⟨_, rfl, ?_⟩ | skip); replace BK129 := bA (bB BK129 hb); replace HB := bA (bS hb); (try clear hb)) | ((first | ((with_reducible refine gate_callee (f := 90) rfl ?_); refine bC (some 17) Try.func90 #[.int .u64 (Go.bits .or .u64 x4_1 x5_1), .agg #[.int .i64 a0_0, .int .u64 a0_1]] ?_) | go_at_call 90); (with_reducible refine (wide_above.calls (Go.bits .or .u64 x4_1 x5_1) a0_0 a0_1 false _ A8.out).mono ?_); rintro e wz0 ⟨rfl, hb⟩; (first | refine ⟨_, rfl, ?_⟩ | skip); replace BK129 := bA (bB BK129 hb); replace HB := bA (bS hb); (try clear hb)))
  ·go_roundg k1
   case measure => have := HK1.out; omega
   case rel => exact ⟨(x4_1), (x5_1 / 2), bs, bs, H', ⟨by have := HK1.out; omega⟩, ⟨by (with_reducible repeat (first | refine blk_drewN ?_ _ | refine blk_drew ?_ | refine blk_alloc ?_ _)); exact BK129.out⟩, ⟨bX⟩⟩
  ·go_roundg k1
   case measure => have := HK1.out; omega
   case rel => exact ⟨(Go.bits .or .u64 x4_1 x5_1), (x5_1 / 2), bs, bs, H', ⟨by have := HK1.out; omega⟩, ⟨by (with_reducible repeat (first | refine blk_drewN ?_ _ | refine blk_drew ?_ | refine blk_alloc ?_ _)); exact BK129.out⟩, ⟨bX⟩⟩
  go_ret2
  exact bF
/-! ### fix_root: function 65 -/
def fix_root.f (k : Nat) (a0_0 : Int) (a0_1 : Int) (a1 : Bool) : Option (Int × Bool) := if a1 = true then ((wide_Wide_Sqrt.f k a0_0 a0_1).bind fun bt132 => (if bt132.2 = true then (if bt132.1 > 9223372036854775807 then (some (0, false)) else (some (wrap64 (bt132.1), true))) else (some (0, false)))) else (some (0, false))
theorem fix_root.mono : ∀ a0 a1 a2 k, LeO (fix_root.f k a0 a1 a2) (fix_root.f (k + 1) a0 a1 a2) := by
 intro a0 a1 a2 k
 unfold fix_root.f
 have m0_ := @wide_Wide_Sqrt.mono
 exact bMo
set_option maxHeartbeats 8000000 in
set_option maxRecDepth 100000 in
theorem fix_root.calls (k : Nat) (a0_0 : Int) (a0_1 : Int) (a1 : Bool) (r1 : Int) (r2 : Bool) (w : World) (h : fix_root.f k a0_0 a0_1 a1 = some (r1, r2)) :
  Calls Try.prog 65 #[.agg #[.int .i64 a0_0, .int .u64 a0_1], .bool a1] w fun e w' => e = .returned (.tuple #[.int .i64 r1, .bool r2]) ∧ Below w.heap.size w w' := by
 have hu84 := Try.underlying84
 have HB := bA (Below.refl w.heap.size w)
 have H : (if a1 = true then ((wide_Wide_Sqrt.f k a0_0 a0_1).bind fun bt132 => (if bt132.2 = true then (if bt132.1 > 9223372036854775807 then (some (0, false)) else (some (wrap64 (bt132.1), true))) else (some (0, false)))) else (some (0, false))) = some (r1, r2) := h
 clear h
 by_cases c3 : a1 = true
 subst c3
 rw [if_pos rfl] at H
 replace H := Option.bind_eq_some_iff.mp H
 obtain ⟨⟨t132, t133⟩, A40, H⟩ := H
 replace H : (if t133 = true then (if t132 > 9223372036854775807 then (some (0, false)) else (some (wrap64 (t132), true))) else (some (0, false))) = some (r1, r2) := H
 have A4 := bA A40
 clear A40
 by_cases c5 : t133 = true
 subst c5
 rw [if_pos rfl] at H
 by_cases c6 : t132 > 9223372036854775807
 rw [if_pos c6] at H
 have c6b0 : decide (9223372036854775807 < t132) = true := decide_eq_true c6
 clear c6
 simp only [Option.some.injEq, Prod.mk.injEq] at H
 obtain ⟨rfl, rfl⟩ := H
 rotate_left
 rw [if_neg c6] at H
 have c6b0 : decide (9223372036854775807 < t132) = false := decide_eq_false c6
 clear c6
 simp only [Option.some.injEq, Prod.mk.injEq] at H
 obtain ⟨rfl, rfl⟩ := H
 rotate_left
 replace c5 := Bool.eq_false_iff.mpr c5
 subst c5
 rw [if_neg bn] at H
 simp only [Option.some.injEq, Prod.mk.injEq] at H
 obtain ⟨rfl, rfl⟩ := H
 rotate_left
 replace c3 := Bool.eq_false_iff.mpr c3
 subst c3
 rw [if_neg bn] at H
 simp only [Option.some.injEq, Prod.mk.injEq] at H
 obtain ⟨rfl, rfl⟩ := H
 rotate_left
 all_goals go_enter Try.func65, Try.ntmps65
 all_goals go_wp2_with (first | ((with_reducible refine gate_dst (N := 2) rfl ?_); refine bE (N := 2) (cs := #[.int .i64 a0_0, .int .u64 a0_1]) (t := 84) ?_; intro gb131 hg wz0 hbox hb; have BK131 := bA (hbox); have GW131 := bA (bZ hg); have GE131 := bA (bZ hg); replace HB := bA (bS hb); clear hb hbox hg; obtain ⟨hz1, hz2, hz3, hz4⟩ := bc2 BK131) | ((first | ((with_reducible refine gate_callee (f := 79) rfl ?_); refine bC (some 11) Try.func79 #[.agg #[.int .i64 a0_0, .int .u64 a0_1]] ?_) | go_at_call 79); (with_reducible refine (wide_Wide_Sqrt.calls k a0_0 a0_1 t132 true _ A4.out).mono ?_); rintro e wz1 ⟨rfl, hb⟩; (first | refine ⟨_, rfl, ?_⟩ | skip); replace BK131 := bA (bB BK131 hb); replace HB := bA (bS hb); (try clear hb)) | ((first | ((with_reducible refine gate_callee (f := 79) rfl ?_); refine bC (some 11) Try.func79 #[.agg #[.int .i64 a0_0, .int .u64 a0_1]] ?_) | go_at_call 79); (with_reducible refine (wide_Wide_Sqrt.calls k a0_0 a0_1 t132 false _ A4.out).mono ?_); rintro e wz1 ⟨rfl, hb⟩; (first | refine ⟨_, rfl, ?_⟩ | skip); replace BK131 := bA (bB BK131 hb); replace HB := bA (bS hb); (try clear hb)))
 all_goals (go_ret2; exact bF)
/-! ### fix_Sqrt: function 51 -/
def fix_Sqrt.f (k : Nat) (a0 : Int) : Option (Int × Bool) := (wide_Of.f a0).bind fun bt134 => ((fix_root.f k bt134.1 bt134.2 true).bind fun bt136 => (some (bt136.1, bt136.2)))
theorem fix_Sqrt.mono : ∀ a0 k, LeO (fix_Sqrt.f k a0) (fix_Sqrt.f (k + 1) a0) := by
 intro a0 k
 unfold fix_Sqrt.f
 have m0_ := @fix_root.mono
 exact bMo
set_option maxHeartbeats 8000000 in
set_option maxRecDepth 100000 in
theorem fix_Sqrt.calls (k : Nat) (a0 : Int) (r1 : Int) (r2 : Bool) (w : World) (h : fix_Sqrt.f k a0 = some (r1, r2)) :
  Calls Try.prog 51 #[.int .i64 a0] w fun e w' => e = .returned (.tuple #[.int .i64 r1, .bool r2]) ∧ Below w.heap.size w w' := by
 have HB := bA (Below.refl w.heap.size w)
 have H : ((wide_Of.f a0).bind fun bt134 => ((fix_root.f k bt134.1 bt134.2 true).bind fun bt136 => (some (bt136.1, bt136.2)))) = some (r1, r2) := h
 clear h
 replace H := Option.bind_eq_some_iff.mp H
 obtain ⟨⟨t134, t135⟩, A20, H⟩ := H
 replace H : ((fix_root.f k t134 t135 true).bind fun bt136 => (some (bt136.1, bt136.2))) = some (r1, r2) := H
 have A2 := bA A20
 clear A20
 replace H := Option.bind_eq_some_iff.mp H
 obtain ⟨⟨t136, t137⟩, A30, H⟩ := H
 replace H : (some (t136, t137)) = some (r1, r2) := H
 have A3 := bA A30
 clear A30
 simp only [Option.some.injEq, Prod.mk.injEq] at H
 obtain ⟨rfl, rfl⟩ := H
 go_enter Try.func51, Try.ntmps51
 go_wp2_with (first | ((first | ((with_reducible refine gate_callee (f := 55) rfl ?_); refine bC (some 5) Try.func55 #[.int .i64 a0] ?_) | go_at_call 55); (with_reducible refine (wide_Of.calls a0 t134 t135 _ A2.out).mono ?_); rintro e w4 ⟨rfl, hb⟩; (first | refine ⟨_, rfl, ?_⟩ | skip); replace HB := bA (bS hb); (try clear hb)) | ((first | ((with_reducible refine gate_callee (f := 65) rfl ?_); refine bC (some 6) Try.func65 #[.agg #[.int .i64 t134, .int .u64 t135], .bool true] ?_) | go_at_call 65); (with_reducible refine (fix_root.calls k t134 t135 true t136 t137 _ A3.out).mono ?_); rintro e w5 ⟨rfl, hb⟩; (first | refine ⟨_, rfl, ?_⟩ | skip); replace HB := bA (bS hb); (try clear hb)))
 go_ret2
 exact bF
/-! ### fall_fallen: function 38 -/
def fall_fallen.f (k : Nat) (a0 : Int) (a1 : Int) (a2 : Int) : Option (Int × Bool) := if a0 < 0 then (some (0, true)) else ((fix_Sqrt.f k (wrap64 ((wrap64 (a1 * a1)) + (wrap64 ((wrap64 (2 * a2)) * a0))))).bind fun bt138 => (if a2 = 0 then (none) else (some (wrap64 (Int.tdiv (wrap64 (a1 + bt138.1)) a2), bt138.2))))
theorem fall_fallen.mono : ∀ a0 a1 a2 k, LeO (fall_fallen.f k a0 a1 a2) (fall_fallen.f (k + 1) a0 a1 a2) := by
 intro a0 a1 a2 k
 unfold fall_fallen.f
 have m0_ := @fix_Sqrt.mono
 exact bMo
set_option maxHeartbeats 8000000 in
set_option maxRecDepth 100000 in
theorem fall_fallen.calls (k : Nat) (a0 : Int) (a1 : Int) (a2 : Int) (r1 : Int) (r2 : Bool) (w : World) (h : fall_fallen.f k a0 a1 a2 = some (r1, r2)) :
  Calls Try.prog 38 #[.int .i64 a0, .int .i64 a1, .int .i64 a2] w fun e w' => e = .returned (.tuple #[.int .i64 r1, .bool r2]) ∧ Below w.heap.size w w' := by
 have HB := bA (Below.refl w.heap.size w)
 have H : (if a0 < 0 then (some (0, true)) else ((fix_Sqrt.f k (wrap64 ((wrap64 (a1 * a1)) + (wrap64 ((wrap64 (2 * a2)) * a0))))).bind fun bt138 => (if a2 = 0 then (none) else (some (wrap64 (Int.tdiv (wrap64 (a1 + bt138.1)) a2), bt138.2))))) = some (r1, r2) := h
 clear h
 by_cases c4 : a0 < 0
 rw [if_pos c4] at H
 have c4b0 : decide (a0 < 0) = true := decide_eq_true c4
 clear c4
 simp only [Option.some.injEq, Prod.mk.injEq] at H
 obtain ⟨rfl, rfl⟩ := H
 rotate_left
 rw [if_neg c4] at H
 have c4b0 : decide (a0 < 0) = false := decide_eq_false c4
 clear c4
 replace H := Option.bind_eq_some_iff.mp H
 obtain ⟨⟨t138, t139⟩, A50, H⟩ := H
 replace H : (if a2 = 0 then (none) else (some (wrap64 (Int.tdiv (wrap64 (a1 + t138)) a2), t139))) = some (r1, r2) := H
 have A5 := bA A50
 clear A50
 by_cases c6 : a2 = 0
 rw [if_pos c6] at H
 exact absurd H (by simp)
 rw [if_neg c6] at H
 have c6b0 : (a2 == 0) = false := beq_eq_false_iff_ne.mpr c6
 have c6b1 : (a2 != 0) = true := bne_iff_ne.mpr c6
 simp only [Option.some.injEq, Prod.mk.injEq] at H
 obtain ⟨rfl, rfl⟩ := H
 rotate_left
 all_goals go_enter Try.func38, Try.ntmps38
 all_goals go_wp2_with (first | ((first | ((with_reducible refine gate_callee (f := 51) rfl ?_); refine bC (some 21) Try.func51 #[.int .i64 (wrap64 ((wrap64 (a1 * a1)) + (wrap64 ((wrap64 (2 * a2)) * a0))))] ?_) | go_at_call 51); (with_reducible refine (fix_Sqrt.calls k (wrap64 ((wrap64 (a1 * a1)) + (wrap64 ((wrap64 (2 * a2)) * a0)))) t138 t139 _ A5.out).mono ?_); rintro e wz0 ⟨rfl, hb⟩; (first | refine ⟨_, rfl, ?_⟩ | skip); replace HB := bA (bS hb); (try clear hb)))
 all_goals (go_ret2; exact bF)
/-! ### fall_Span: function 18 -/
def fall_Span.j0 : Nat → Int → Int → Int → Int → Bool → Option (Int × Int × Bool)
 | 0, _, _, _, _, _ => none
 | k + 1, x0, x1, x2, x3, x21 => if x21 = true then (some (0, 0, false)) else ((fall_fallen.f k (wrap64 (x0 - x3)) (wrap64 (x1 - x3)) x2).bind fun bt142 => ((fall_fallen.f k (wrap64 (x0 + x3)) (wrap64 (x1 + x3)) x2).bind fun bt144 => (if bt142.2 = true then (if bt144.2 = true then (some (bt142.1, wrap64 (bt144.1 + 2), true)) else (some (0, 0, false))) else (some (0, 0, false)))))
def fall_Span.f (k : Nat) (a0 : Int) (a1 : Int) (a2 : Int) (a3 : Int) : Option (Int × Int × Bool) := (fall_within.f a3 0 2048).bind fun t140 => (if t140 = true then ((fall_may.f a0 a1 a2).bind fun t141 => (fall_Span.j0 k a0 a1 a2 a3 (!t141))) else (fall_Span.j0 k a0 a1 a2 a3 true))
theorem fall_Span.mono_l : ∀ k, (∀ y0 y1 y2 y3 y4, LeO (fall_Span.j0 k y0 y1 y2 y3 y4) (fall_Span.j0 (k + 1) y0 y1 y2 y3 y4))
 | 0 => fun _ _ _ _ _ r h => by simp [fall_Span.j0] at h
 | k + 1 => by
  have ih0 := fall_Span.mono_l k
  ·intro y0 y1 y2 y3 y4
   unfold fall_Span.j0
   have m0_ := @fall_fallen.mono
   exact bMo
theorem fall_Span.mono : ∀ a0 a1 a2 a3 k, LeO (fall_Span.f k a0 a1 a2 a3) (fall_Span.f (k + 1) a0 a1 a2 a3) := by
 intro a0 a1 a2 a3 k
 have ih0 := fall_Span.mono_l k
 unfold fall_Span.f
 have m0_ := @fall_fallen.mono
 exact bMo
set_option maxHeartbeats 8000000 in
set_option maxRecDepth 100000 in
theorem fall_Span.calls (k : Nat) (a0 : Int) (a1 : Int) (a2 : Int) (a3 : Int) (r1 : Int) (r2 : Int) (r3 : Bool) (w : World) (h : fall_Span.f k a0 a1 a2 a3 = some (r1, r2, r3)) :
  Calls Try.prog 18 #[.int .i64 a0, .int .i64 a1, .int .i64 a2, .int .i64 a3] w fun e w' => e = .returned (.tuple #[.int .i64 r1, .int .i64 r2, .bool r3]) ∧ Below w.heap.size w w' := by
 have HB := bA (Below.refl w.heap.size w)
 have H : ((fall_within.f a3 0 2048).bind fun t140 => (if t140 = true then ((fall_may.f a0 a1 a2).bind fun t141 => (fall_Span.j0 k a0 a1 a2 a3 (!t141))) else (fall_Span.j0 k a0 a1 a2 a3 true))) = some (r1, r2, r3) := h
 clear h
 have HC5 := bA H
 clear H
 go_enter Try.func18, Try.ntmps18
 go_upto_region 1 with (fail)
 go_cut [21] (fun v21 wc => ∃ (kq : Nat) (x21_4 : Bool), v21 = .bool x21_4 ∧ Aside0 (fall_Span.j0 kq a0 a1 a2 a3 x21_4 = some (r1, r2, r3)) ∧ Aside0 (kq ≤ k) ∧ Aside0 (Below w.heap.size w wc))
 case first =>
  have H := HC5.out
  clear HC5
  replace H := Option.bind_eq_some_iff.mp H
  obtain ⟨t140, A60, H⟩ := H
  have A6 := bA A60
  clear A60
  by_cases c7 : t140 = true
  subst c7
  rw [if_pos rfl] at H
  replace H := Option.bind_eq_some_iff.mp H
  obtain ⟨t141, A80, H⟩ := H
  have A8 := bA A80
  clear A80
  have H' := bA H
  clear H
  rotate_left
  replace c7 := Bool.eq_false_iff.mpr c7
  subst c7
  rw [if_neg bn] at H
  have H' := bA H
  clear H
  rotate_left
  all_goals go_wp2_with (first | ((first | ((with_reducible refine gate_callee (f := 36) rfl ?_); refine bC (some 13) Try.func36 #[.int .i64 a3, .int .i64 0, .int .i64 2048] ?_) | go_at_call 36); (with_reducible refine (fall_within.calls a3 0 2048 true _ A6.out).mono ?_); rintro e w' ⟨rfl, ⟨nd, rfl⟩⟩; (first | refine ⟨_, rfl, ?_⟩ | skip)) | (go_at_call 37; (with_reducible refine (fall_may.calls a0 a1 a2 t141 _ A8.out).mono ?_); rintro e w' ⟨rfl, ⟨nd, rfl⟩⟩) | ((first | ((with_reducible refine gate_callee (f := 36) rfl ?_); refine bC (some 13) Try.func36 #[.int .i64 a3, .int .i64 0, .int .i64 2048] ?_) | go_at_call 36); (with_reducible refine (fall_within.calls a3 0 2048 false _ A6.out).mono ?_); rintro e w' ⟨rfl, ⟨nd, rfl⟩⟩; (first | refine ⟨_, rfl, ?_⟩ | skip)))
  ·go_meet
   case rel => exact ⟨_, (!t141), bs, H', ⟨by first | omega | exact Nat.le_refl _⟩, ⟨bX⟩⟩
  go_meet
  case rel => exact ⟨_, (true), bs, H', ⟨by first | omega | exact Nat.le_refl _⟩, ⟨bX⟩⟩
 clear HC5
 try clear c1
 try clear p2
 try clear c3
 try clear c7
 obtain ⟨kq, x21_4, rfl, HA, HJ4, HB⟩ := hcut
 cases kq with
 | zero => exact absurd HA.out (by simp [fall_Span.j0])
 | succ kj4 =>
  have H := HA.out
  clear HA
  simp only [fall_Span.j0] at H
  by_cases c9 : x21_4 = true
  subst c9
  rw [if_pos rfl] at H
  simp only [Option.some.injEq, Prod.mk.injEq] at H
  obtain ⟨rfl, rfl, rfl⟩ := H
  rotate_left
  replace c9 := Bool.eq_false_iff.mpr c9
  subst c9
  rw [if_neg bn] at H
  replace H := Option.bind_eq_some_iff.mp H
  obtain ⟨⟨t142, t143⟩, A100, H⟩ := H
  replace H : ((fall_fallen.f kj4 (wrap64 (a0 + a3)) (wrap64 (a1 + a3)) a2).bind fun bt144 => (if t143 = true then (if bt144.2 = true then (some (t142, wrap64 (bt144.1 + 2), true)) else (some (0, 0, false))) else (some (0, 0, false)))) = some (r1, r2, r3) := H
  have A10 := bA A100
  clear A100
  replace H := Option.bind_eq_some_iff.mp H
  obtain ⟨⟨t144, t145⟩, A110, H⟩ := H
  replace H : (if t143 = true then (if t145 = true then (some (t142, wrap64 (t144 + 2), true)) else (some (0, 0, false))) else (some (0, 0, false))) = some (r1, r2, r3) := H
  have A11 := bA A110
  clear A110
  by_cases c12 : t143 = true
  subst c12
  rw [if_pos rfl] at H
  by_cases c13 : t145 = true
  subst c13
  rw [if_pos rfl] at H
  simp only [Option.some.injEq, Prod.mk.injEq] at H
  obtain ⟨rfl, rfl, rfl⟩ := H
  rotate_left
  replace c13 := Bool.eq_false_iff.mpr c13
  subst c13
  rw [if_neg bn] at H
  simp only [Option.some.injEq, Prod.mk.injEq] at H
  obtain ⟨rfl, rfl, rfl⟩ := H
  rotate_left
  replace c12 := Bool.eq_false_iff.mpr c12
  subst c12
  rw [if_neg bn] at H
  simp only [Option.some.injEq, Prod.mk.injEq] at H
  obtain ⟨rfl, rfl, rfl⟩ := H
  rotate_left
  all_goals go_wp2_with (first | ((first | ((with_reducible refine gate_callee (f := 38) rfl ?_); refine bC (some 30) Try.func38 #[.int .i64 (wrap64 (a0 - a3)), .int .i64 (wrap64 (a1 - a3)), .int .i64 a2] ?_) | go_at_call 38); (with_reducible refine (fall_fallen.calls kj4 (wrap64 (a0 - a3)) (wrap64 (a1 - a3)) a2 t142 true _ A10.out).mono ?_); rintro e wz0 ⟨rfl, hb⟩; (first | refine ⟨_, rfl, ?_⟩ | skip); replace HB := bA (bS hb); (try clear hb)) | ((first | ((with_reducible refine gate_callee (f := 38) rfl ?_); refine bC (some 41) Try.func38 #[.int .i64 (wrap64 (a0 + a3)), .int .i64 (wrap64 (a1 + a3)), .int .i64 a2] ?_) | go_at_call 38); (with_reducible refine (fall_fallen.calls kj4 (wrap64 (a0 + a3)) (wrap64 (a1 + a3)) a2 t144 true _ A11.out).mono ?_); rintro e wz1 ⟨rfl, hb⟩; (first | refine ⟨_, rfl, ?_⟩ | skip); replace HB := bA (bS hb); (try clear hb)) | ((first | ((with_reducible refine gate_callee (f := 38) rfl ?_); refine bC (some 41) Try.func38 #[.int .i64 (wrap64 (a0 + a3)), .int .i64 (wrap64 (a1 + a3)), .int .i64 a2] ?_) | go_at_call 38); (with_reducible refine (fall_fallen.calls kj4 (wrap64 (a0 + a3)) (wrap64 (a1 + a3)) a2 t144 false _ A11.out).mono ?_); rintro e wz1 ⟨rfl, hb⟩; (first | refine ⟨_, rfl, ?_⟩ | skip); replace HB := bA (bS hb); (try clear hb)) | ((first | ((with_reducible refine gate_callee (f := 38) rfl ?_); refine bC (some 30) Try.func38 #[.int .i64 (wrap64 (a0 - a3)), .int .i64 (wrap64 (a1 - a3)), .int .i64 a2] ?_) | go_at_call 38); (with_reducible refine (fall_fallen.calls kj4 (wrap64 (a0 - a3)) (wrap64 (a1 - a3)) a2 t142 false _ A10.out).mono ?_); rintro e wz0 ⟨rfl, hb⟩; (first | refine ⟨_, rfl, ?_⟩ | skip); replace HB := bA (bS hb); (try clear hb)) | ((first | ((with_reducible refine gate_callee (f := 38) rfl ?_); refine bC (some 41) Try.func38 #[.int .i64 (wrap64 (a0 + a3)), .int .i64 (wrap64 (a1 + a3)), .int .i64 a2] ?_) | go_at_call 38); (with_reducible refine (fall_fallen.calls kj4 (wrap64 (a0 + a3)) (wrap64 (a1 + a3)) a2 t144 t145 _ A11.out).mono ?_); rintro e wz1 ⟨rfl, hb⟩; (first | refine ⟨_, rfl, ?_⟩ | skip); replace HB := bA (bS hb); (try clear hb)))
  all_goals (go_ret3; exact bF)
end Go.Proofs.Ytfeekdoakoabeaa.G
