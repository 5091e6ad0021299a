-- Written by a program of this session out of the translation; Lean checks it.
import Derived.Test.YtfeekdoakoabeaaGx0
namespace Go.Proofs.Ytfeekdoakoabeaa.G
open Go.RowKit Go.Proofs.YtfeekdoakoabeaaW.PrintWords Go.Proofs.YtfeekdoakoabeaaW.PrintLast Go.Proofs.YtfeekdoakoabeaaW.PrintMore
attribute [local go_sem] max2_int min2_int max_two min_two max_three min_three max_four min_four   -- for this text's walks alone
set_option linter.unusedVariables false
set_option linter.unusedSimpArgs false

/-! ### apogeelaw18_Off: function 9 -/
def apogeelaw18_Off.f (a0_0 : Int) (a0_1 : Int) (a0_2 : Int) (a0_3 : Int) (a0_4 : Int) (a0_5 : Int) (a0_6 : Int) (a0_7 : Int) (a1_0 : Int) (a1_1 : Int) (a1_2 : Int) (a1_3 : Int) (a1_4 : Int) (a1_5 : Int) (a2 : Int) : Option (Int × Int × Int × Int × Int × Int × Int × Int) := if wrap64 (a2 + 1) = 0 then (none) else (some (a0_0, a0_1, wrap64 (a0_2 + Int.tmod a1_0 (wrap64 (a2 + 1))), wrap64 (a0_3 + Int.tmod a1_1 (wrap64 (a2 + 1))), wrap64 (a0_4 + Int.tmod a1_2 (wrap64 (a2 + 1))), wrap64 (a0_5 + Int.tmod a1_3 (wrap64 (a2 + 1))), wrap64 (a0_6 + Int.tmod a1_4 (wrap64 (a2 + 1))), wrap64 (a0_7 + Int.tmod a1_5 (wrap64 (a2 + 1)))))
def apogeelaw18_Off.T1 : Bool × List (List Nat × List Nat) := (true, [([], []), ([0], [0]), ([], []), ([2], [2]), ([], []), ([4], [4]), ([3, 5], [3, 5]), ([1, 6], [1, 6]), ([], []), ([8], [8]), ([], []), ([10], [10]), ([], []), ([12], [12]), ([11, 13], [11, 13]), ([9, 14], [9, 14]), ([], []), ([16], [16]), ([], []), ([18], [18]), ([], []), ([20], [20]), ([19, 21], [19, 21]), ([17, 22], [17, 22]), ([0, 1, 2, 3, 4, 5, 6, 7, 8, 9, 16, 17], []), ([24, 7, 0, 1, 2, 3, 4, 5, 6, 7, 8, 9, 16, 17], [7, 24]), ([0, 1, 2, 3, 4, 5, 6, 7, 8, 9, 10, 11, 12, 13, 14, 15, 16, 17, 24, 25], []), ([26, 15, 25, 0, 1, 2, 3, 4, 5, 6, 7, 8, 9, 10, 11, 12, 13, 14, 15, 16, 17, 24, 25], [15, 26]), ([0, 1, 2, 3, 4, 5, 6, 7, 8, 9, 10, 11, 12, 13, 14, 15, 16, 17, 18, 19, 20, 21, 22, 23, 24, 25, 26, 27], []), ([28, 23, 27, 0, 1, 2, 3, 4, 5, 6, 7, 8, 9, 10, 11, 12, 13, 14, 15, 16, 17, 18, 19, 20, 21, 22, 23, 24, 25, 26, 27], [23, 28])])
def apogeelaw18_Off.B1 : List Nat := [0, 1, 0, 4, 0, 16, 60, 127, 0, 256, 0, 1024, 0, 4096, 15360, 32512, 0, 65536, 0, 262144, 0, 1048576, 3932160, 8323072, 197631, 16974847, 50593791, 117702655, 268435455, 536870911]
theorem apogeelaw18_Off.tab1 : rtab .any (opsOf Try.f9 1) = apogeelaw18_Off.T1 := by kernel_rfl
theorem apogeelaw18_Off.bits1 : waitsOk apogeelaw18_Off.T1.2 apogeelaw18_Off.B1 = true := by kernel_rfl
def apogeelaw18_Off.T2 : Bool × List (List Nat × List Nat) := (true, [([], []), ([0], [0]), ([], []), ([2], [2]), ([], []), ([4], [4]), ([3, 5], [3, 5]), ([1, 6], [1, 6]), ([], []), ([8], [8]), ([], []), ([10], [10]), ([], []), ([12], [12]), ([11, 13], [11, 13]), ([9, 14], [9, 14]), ([], []), ([16], [16]), ([], []), ([18], [18]), ([], []), ([20], [20]), ([19, 21], [19, 21]), ([17, 22], [17, 22]), ([0, 1, 2, 3, 4, 5, 6, 7, 8, 9, 16, 17], []), ([24, 7, 0, 1, 2, 3, 4, 5, 6, 7, 8, 9, 16, 17], [7, 24]), ([0, 1, 2, 3, 4, 5, 6, 7, 8, 9, 10, 11, 12, 13, 14, 15, 16, 17, 24, 25], []), ([26, 15, 25, 0, 1, 2, 3, 4, 5, 6, 7, 8, 9, 10, 11, 12, 13, 14, 15, 16, 17, 24, 25], [15, 26]), ([0, 1, 2, 3, 4, 5, 6, 7, 8, 9, 10, 11, 12, 13, 14, 15, 16, 17, 18, 19, 20, 21, 22, 23, 24, 25, 26, 27], []), ([28, 23, 27, 0, 1, 2, 3, 4, 5, 6, 7, 8, 9, 10, 11, 12, 13, 14, 15, 16, 17, 18, 19, 20, 21, 22, 23, 24, 25, 26, 27], [23, 28])])
def apogeelaw18_Off.B2 : List Nat := [0, 1, 0, 4, 0, 16, 60, 127, 0, 256, 0, 1024, 0, 4096, 15360, 32512, 0, 65536, 0, 262144, 0, 1048576, 3932160, 8323072, 197631, 16974847, 50593791, 117702655, 268435455, 536870911]
theorem apogeelaw18_Off.tab2 : rtab .any (opsOf Try.f9 2) = apogeelaw18_Off.T2 := by kernel_rfl
theorem apogeelaw18_Off.bits2 : waitsOk apogeelaw18_Off.T2.2 apogeelaw18_Off.B2 = true := by kernel_rfl
theorem bL2o {W : World} {g g2 : Nat} {o : Obj} (h : W.heap[g]? = some o) (hg : g2 = W.heap.size) : g ≠ g2 := by rw [hg]; exact Nat.ne_of_lt (blk_lt h)
set_option maxHeartbeats 8000000 in
set_option maxRecDepth 100000 in
theorem apogeelaw18_Off.calls (a0_0 : Int) (a0_1 : Int) (a0_2 : Int) (a0_3 : Int) (a0_4 : Int) (a0_5 : Int) (a0_6 : Int) (a0_7 : Int) (a1_0 : Int) (a1_1 : Int) (a1_2 : Int) (a1_3 : Int) (a1_4 : Int) (a1_5 : Int) (a2 : Int) (r1 : Int) (r2 : Int) (r3 : Int) (r4 : Int) (r5 : Int) (r6 : Int) (r7 : Int) (r8 : Int) (w : World) (h : apogeelaw18_Off.f a0_0 a0_1 a0_2 a0_3 a0_4 a0_5 a0_6 a0_7 a1_0 a1_1 a1_2 a1_3 a1_4 a1_5 a2 = some (r1, r2, r3, r4, r5, r6, r7, r8)) :
  Calls Try.prog 9 #[.agg #[.int .i64 a0_0, .int .i64 a0_1, .int .i64 a0_2, .int .i64 a0_3, .int .i64 a0_4, .int .i64 a0_5, .int .i64 a0_6, .int .i64 a0_7], .agg #[.int .i64 a1_0, .int .i64 a1_1, .int .i64 a1_2, .int .i64 a1_3, .int .i64 a1_4, .int .i64 a1_5], .int .i64 a2] w fun e w' => e = .returned (.agg #[.int .i64 r1, .int .i64 r2, .int .i64 r3, .int .i64 r4, .int .i64 r5, .int .i64 r6, .int .i64 r7, .int .i64 r8]) ∧ Below w.heap.size w w' := by
 have hu23 := Try.underlying23
 have hu24 := Try.underlying24
 have HB := bA (Below.refl w.heap.size w)
 unfold apogeelaw18_Off.f at h
 obtain ⟨m_, hm_⟩ : ∃ m : Int, wrap64 (a2 + 1) = m := ⟨_, rfl⟩
 rw [hm_] at h
 have hmw_ : IntKind.i64.wrap (a2 + 1) = m_ := (i64_w _).trans hm_
 by_cases c0 : m_ = 0
 ·rw [if_pos c0] at h; exact absurd h (by simp)
 rw [if_neg c0] at h
 have c0b : (m_ == 0) = false := beq_eq_false_iff_ne.mpr c0
 have c0c : (m_ != 0) = true := bne_iff_ne.mpr c0
 simp only [Option.some.injEq, Prod.mk.injEq] at h
 obtain ⟨rfl, rfl, rfl, rfl, rfl, rfl, rfl, rfl⟩ := h
 go_enter Try.func9, Try.ntmps9
 try go_wp2_with (first | ((with_reducible refine gate_dst (N := 3) rfl ?_); refine bE (N := 3) (cs := #[.int .i64 a0_0, .int .i64 a0_1, .int .i64 a0_2, .int .i64 a0_3, .int .i64 a0_4, .int .i64 a0_5, .int .i64 a0_6, .int .i64 a0_7]) (t := 23) ?_; intro gn hg w_ hbox hb; have BKn := bA (hbox); have GEn := bA (bZ hg);  replace HB := bA (bS hb); clear hb hbox hg) | ((with_reducible refine gate_dst (N := 4) rfl ?_); refine bE (N := 4) (cs := #[.int .i64 a1_0, .int .i64 a1_1, .int .i64 a1_2, .int .i64 a1_3, .int .i64 a1_4, .int .i64 a1_5]) (t := 24) ?_; intro gd hg w_ hbox hb; have BKd := bA (hbox); have GEd := bA (bZ hg); have Nnd := bA (bL2o (bP (o := .cells #[.int .i64 a0_0, .int .i64 a0_1, .int .i64 a0_2, .int .i64 a0_3, .int .i64 a0_4, .int .i64 a0_5, .int .i64 a0_6, .int .i64 a0_7] 23 (0, 0)) BKn) hg); have Ndn := bA (fun e_ => Nnd.out (Eq.symm e_)); replace BKn := bA (blk_below (bP (o := .cells #[.int .i64 a0_0, .int .i64 a0_1, .int .i64 a0_2, .int .i64 a0_3, .int .i64 a0_4, .int .i64 a0_5, .int .i64 a0_6, .int .i64 a0_7] 23 (0, 0)) BKn) hb); replace HB := bA (bS hb); clear hb hbox hg) | ((with_reducible refine gate_dst (N := 6) rfl ?_); refine bE (N := 6) (cs := #[.int .i64 0, .int .i64 0, .int .i64 0, .int .i64 0, .int .i64 0, .int .i64 0, .int .i64 0, .int .i64 0]) (t := 23) ?_; intro gr hg w_ hbox hb; have BKr := bA (hbox); have GEr := bA (bZ hg); have Nnr := bA (bL2o (bP (o := .cells #[.int .i64 a0_0, .int .i64 a0_1, .int .i64 a0_2, .int .i64 a0_3, .int .i64 a0_4, .int .i64 a0_5, .int .i64 a0_6, .int .i64 a0_7] 23 (0, 0)) BKn) hg); have Nrn := bA (fun e_ => Nnr.out (Eq.symm e_)); replace BKn := bA (blk_below (bP (o := .cells #[.int .i64 a0_0, .int .i64 a0_1, .int .i64 a0_2, .int .i64 a0_3, .int .i64 a0_4, .int .i64 a0_5, .int .i64 a0_6, .int .i64 a0_7] 23 (0, 0)) BKn) hb); replace BKd := bA (blk_below (bP (o := .cells #[.int .i64 a1_0, .int .i64 a1_1, .int .i64 a1_2, .int .i64 a1_3, .int .i64 a1_4, .int .i64 a1_5] 24 (0, 0)) BKd) hb); replace HB := bA (bS hb); clear hb hbox hg))
 replace BKn := bA (blk_drew BKn.out)
 replace BKd := bA (blk_drew BKd.out)
 replace BKr := bA (blk_drew BKr.out)
 replace HB := bA (below_drew1 HB.out)
 refine start_ (n := 30) (S := fun w' => w'.cell? ⟨gd, 0, none⟩ = some (.int .i64 a1_0) ∧ w'.cell? ⟨gd, 1, none⟩ = some (.int .i64 a1_1) ∧ w'.cell? ⟨gd, 2, none⟩ = some (.int .i64 a1_2)) (ds := []) #[false,false,false,false,false,false,false,false,false,false,false,false,false,false,false,false,false,false,false,false,false,false,false,false,false,false,false,false,false,false] (by kernel_rfl) rfl rfl ⟨bq BKd 0, bq BKd 1, bq BKd 2⟩ (fun hHeld => ?_)
 refine with_tabW apogeelaw18_Off.tab1 apogeelaw18_Off.bits1 (fun HT_ HW_ => ?_)
 generalize w_.drew = w1_ at BKn BKd BKr HB hHeld ⊢
 have hc4_ : w1_.cell? ⟨gn, 4, none⟩ = some (.int .i64 a0_4) := bq BKn 4
 have hf4_ : w1_.frozen? ⟨gn, 4, none⟩ = false := blk_frozen BKn.out 4
 have hc3_ : w1_.cell? ⟨gn, 3, none⟩ = some (.int .i64 a0_3) := bq BKn 3
 have hf3_ : w1_.frozen? ⟨gn, 3, none⟩ = false := blk_frozen BKn.out 3
 have hc2_ : w1_.cell? ⟨gn, 2, none⟩ = some (.int .i64 a0_2) := bq BKn 2
 have hf2_ : w1_.frozen? ⟨gn, 2, none⟩ = false := blk_frozen BKn.out 2
 refine bU (i := 0) (N := some 7) ?_
 refine bU (i := 2) (N := some 9) ?_
 refine bU (i := 4) (N := some 11) ?_
 refine bU (i := 5) (N := some 12) ?_
 refine bU (i := 8) (N := some 15) ?_
 refine bU (i := 10) (N := some 17) ?_
 refine bU (i := 12) (N := some 19) ?_
 refine bU (i := 13) (N := some 20) ?_
 refine bU (i := 16) (N := some 23) ?_
 refine bU (i := 18) (N := some 25) ?_
 refine bU (i := 20) (N := some 27) ?_
 refine bU (i := 21) (N := some 28) ?_
 refine bW (i := 3) (N := some 10) hHeld ?_
 refine bU (i := 6) (N := some 13) ?_
 refine bW (i := 11) (N := some 18) hHeld ?_
 refine bU (i := 14) (N := some 21) ?_
 refine bW (i := 19) (N := some 26) hHeld ?_
 refine bU (i := 22) (N := some 29) ?_
 refine bJ (σ := Unit) 6 #[true,true,true,true,true,true,true,true,true,true,true,true,true,true,true,true,true,true,true,true,true,true,true,true,false,false,false,false,false,false] (fun _ => [(8, .int .i64 a0_2), (16, .int .i64 a0_3), (24, .int .i64 a0_4), (14, .int .i64 (wrap64 (a0_2 + Int.tmod a1_0 m_))), (22, .int .i64 (wrap64 (a0_3 + Int.tmod a1_1 m_))), (30, .int .i64 (wrap64 (a0_4 + Int.tmod a1_2 m_)))]) (fun _ w' => w' = w1_) ?_ ?_
 ·intro hCont
  refine three_ (i := 1) (j := 9) (k := 17) (Ni := some 8) (Nj := some 16) (Nk := some 24) #[true,true,true,true,true,true,true,false,true,false,true,true,true,true,true,false,true,false,true,true,true,true,true,false,false,false,false,false,false,false] #[true,false,true,true,true,true,true,false,true,true,true,true,true,true,true,false,true,false,true,true,true,true,true,false,false,false,false,false,false,false] #[true,false,true,true,true,true,true,false,true,false,true,true,true,true,true,false,true,true,true,true,true,true,true,false,false,false,false,false,false,false] rfl rfl rfl rfl rfl rfl (three_of HT_.out (by kernel_rfl)) (by decide) (by decide) (by decide) (fun K hK => ?_) (fun K hK => ?_) (fun K hK => ?_)
  ·skip
   refine value_ (w1 := ?_) (v := ?_) (by rfl) rfl ?_ ?_
   rotate_left 2
   ·go_simp
    constructor
    ·rfl
    ·rfl
   refine hK.out _ _ ⟨hHeld.1, hHeld.2.1, hHeld.2.2⟩ (fun hHeld => ?_)
   clear hK K
   refine bI 8 ?_
   refine bU (i := 7) (N := some 14) ?_
   refine two_ (i := 9) (j := 17) (Ni := some 16) (Nj := some 24) #[true,true,true,true,true,true,true,true,true,true,true,true,true,true,true,false,true,false,true,true,true,true,true,false,false,false,false,false,false,false] #[true,true,true,true,true,true,true,true,true,false,true,true,true,true,true,false,true,true,true,true,true,true,true,false,false,false,false,false,false,false] rfl rfl rfl rfl (two_of HT_.out (by kernel_rfl)) (by decide) (by decide) (fun K hK => ?_) (fun K hK => ?_)
   ·skip
    refine value_ (w1 := ?_) (v := ?_) (by rfl) rfl ?_ ?_
    rotate_left 2
    ·go_simp
     constructor
     ·rfl
     ·rfl
    refine hK.out _ _ ⟨hHeld.1, hHeld.2.1, hHeld.2.2⟩ (fun hHeld => ?_)
    clear hK K
    refine bI 16 ?_
    refine bU (i := 15) (N := some 22) ?_
    refine one_ (i := 17) (N := some 24) #[true,true,true,true,true,true,true,true,true,true,true,true,true,true,true,true,true,true,true,true,true,true,true,false,false,false,false,false,false,false] rfl rfl (one_of HT_.out (by kernel_rfl)) (by decide) (fun K hK => ?_)
    refine value_ (w1 := ?_) (v := ?_) (by rfl) rfl ?_ ?_
    rotate_left 2
    ·go_simp
     constructor
     ·rfl
     ·rfl
    refine hK.out _ _ ⟨hHeld.1, hHeld.2.1, hHeld.2.2⟩ (fun hHeld => ?_)
    clear hK K
    refine bI 24 ?_
    refine bU (i := 23) (N := some 30) ?_
    exact norm_ (by simp only [putAll, Act.put, List.setIfInBounds_toArray, List.set_cons_zero, List.set_cons_succ]) (hCont () _ rfl)
   ·skip
    refine value_ (w1 := ?_) (v := ?_) (by rfl) rfl ?_ ?_
    rotate_left 2
    ·go_simp
     constructor
     ·rfl
     ·rfl
    refine hK.out _ _ ⟨hHeld.1, hHeld.2.1, hHeld.2.2⟩ (fun hHeld => ?_)
    clear hK K
    refine bI 24 ?_
    refine bU (i := 23) (N := some 30) ?_
    refine one_ (i := 9) (N := some 16) #[true,true,true,true,true,true,true,true,true,true,true,true,true,true,true,false,true,true,true,true,true,true,true,true,false,false,false,false,false,false] rfl rfl (one_of HT_.out (by kernel_rfl)) (by decide) (fun K hK => ?_)
    refine value_ (w1 := ?_) (v := ?_) (by rfl) rfl ?_ ?_
    rotate_left 2
    ·go_simp
     constructor
     ·rfl
     ·rfl
    refine hK.out _ _ ⟨hHeld.1, hHeld.2.1, hHeld.2.2⟩ (fun hHeld => ?_)
    clear hK K
    refine bI 16 ?_
    refine bU (i := 15) (N := some 22) ?_
    exact norm_ (by simp only [putAll, Act.put, List.setIfInBounds_toArray, List.set_cons_zero, List.set_cons_succ]) (hCont () _ rfl)
  ·skip
   refine value_ (w1 := ?_) (v := ?_) (by rfl) rfl ?_ ?_
   rotate_left 2
   ·go_simp
    constructor
    ·rfl
    ·rfl
   refine hK.out _ _ ⟨hHeld.1, hHeld.2.1, hHeld.2.2⟩ (fun hHeld => ?_)
   clear hK K
   refine bI 16 ?_
   refine bU (i := 15) (N := some 22) ?_
   refine two_ (i := 1) (j := 17) (Ni := some 8) (Nj := some 24) #[true,true,true,true,true,true,true,false,true,true,true,true,true,true,true,true,true,false,true,true,true,true,true,false,false,false,false,false,false,false] #[true,false,true,true,true,true,true,false,true,true,true,true,true,true,true,true,true,true,true,true,true,true,true,false,false,false,false,false,false,false] rfl rfl rfl rfl (two_of HT_.out (by kernel_rfl)) (by decide) (by decide) (fun K hK => ?_) (fun K hK => ?_)
   ·skip
    refine value_ (w1 := ?_) (v := ?_) (by rfl) rfl ?_ ?_
    rotate_left 2
    ·go_simp
     constructor
     ·rfl
     ·rfl
    refine hK.out _ _ ⟨hHeld.1, hHeld.2.1, hHeld.2.2⟩ (fun hHeld => ?_)
    clear hK K
    refine bI 8 ?_
    refine bU (i := 7) (N := some 14) ?_
    refine one_ (i := 17) (N := some 24) #[true,true,true,true,true,true,true,true,true,true,true,true,true,true,true,true,true,true,true,true,true,true,true,false,false,false,false,false,false,false] rfl rfl (one_of HT_.out (by kernel_rfl)) (by decide) (fun K hK => ?_)
    refine value_ (w1 := ?_) (v := ?_) (by rfl) rfl ?_ ?_
    rotate_left 2
    ·go_simp
     constructor
     ·rfl
     ·rfl
    refine hK.out _ _ ⟨hHeld.1, hHeld.2.1, hHeld.2.2⟩ (fun hHeld => ?_)
    clear hK K
    refine bI 24 ?_
    refine bU (i := 23) (N := some 30) ?_
    exact norm_ (by simp only [putAll, Act.put, List.setIfInBounds_toArray, List.set_cons_zero, List.set_cons_succ]) (hCont () _ rfl)
   ·skip
    refine value_ (w1 := ?_) (v := ?_) (by rfl) rfl ?_ ?_
    rotate_left 2
    ·go_simp
     constructor
     ·rfl
     ·rfl
    refine hK.out _ _ ⟨hHeld.1, hHeld.2.1, hHeld.2.2⟩ (fun hHeld => ?_)
    clear hK K
    refine bI 24 ?_
    refine bU (i := 23) (N := some 30) ?_
    refine one_ (i := 1) (N := some 8) #[true,true,true,true,true,true,true,false,true,true,true,true,true,true,true,true,true,true,true,true,true,true,true,true,false,false,false,false,false,false] rfl rfl (one_of HT_.out (by kernel_rfl)) (by decide) (fun K hK => ?_)
    refine value_ (w1 := ?_) (v := ?_) (by rfl) rfl ?_ ?_
    rotate_left 2
    ·go_simp
     constructor
     ·rfl
     ·rfl
    refine hK.out _ _ ⟨hHeld.1, hHeld.2.1, hHeld.2.2⟩ (fun hHeld => ?_)
    clear hK K
    refine bI 8 ?_
    refine bU (i := 7) (N := some 14) ?_
    exact norm_ (by simp only [putAll, Act.put, List.setIfInBounds_toArray, List.set_cons_zero, List.set_cons_succ]) (hCont () _ rfl)
  ·skip
   refine value_ (w1 := ?_) (v := ?_) (by rfl) rfl ?_ ?_
   rotate_left 2
   ·go_simp
    constructor
    ·rfl
    ·rfl
   refine hK.out _ _ ⟨hHeld.1, hHeld.2.1, hHeld.2.2⟩ (fun hHeld => ?_)
   clear hK K
   refine bI 24 ?_
   refine bU (i := 23) (N := some 30) ?_
   refine two_ (i := 1) (j := 9) (Ni := some 8) (Nj := some 16) #[true,true,true,true,true,true,true,false,true,false,true,true,true,true,true,false,true,true,true,true,true,true,true,true,false,false,false,false,false,false] #[true,false,true,true,true,true,true,false,true,true,true,true,true,true,true,false,true,true,true,true,true,true,true,true,false,false,false,false,false,false] rfl rfl rfl rfl (two_of HT_.out (by kernel_rfl)) (by decide) (by decide) (fun K hK => ?_) (fun K hK => ?_)
   ·skip
    refine value_ (w1 := ?_) (v := ?_) (by rfl) rfl ?_ ?_
    rotate_left 2
    ·go_simp
     constructor
     ·rfl
     ·rfl
    refine hK.out _ _ ⟨hHeld.1, hHeld.2.1, hHeld.2.2⟩ (fun hHeld => ?_)
    clear hK K
    refine bI 8 ?_
    refine bU (i := 7) (N := some 14) ?_
    refine one_ (i := 9) (N := some 16) #[true,true,true,true,true,true,true,true,true,true,true,true,true,true,true,false,true,true,true,true,true,true,true,true,false,false,false,false,false,false] rfl rfl (one_of HT_.out (by kernel_rfl)) (by decide) (fun K hK => ?_)
    refine value_ (w1 := ?_) (v := ?_) (by rfl) rfl ?_ ?_
    rotate_left 2
    ·go_simp
     constructor
     ·rfl
     ·rfl
    refine hK.out _ _ ⟨hHeld.1, hHeld.2.1, hHeld.2.2⟩ (fun hHeld => ?_)
    clear hK K
    refine bI 16 ?_
    refine bU (i := 15) (N := some 22) ?_
    exact norm_ (by simp only [putAll, Act.put, List.setIfInBounds_toArray, List.set_cons_zero, List.set_cons_succ]) (hCont () _ rfl)
   ·skip
    refine value_ (w1 := ?_) (v := ?_) (by rfl) rfl ?_ ?_
    rotate_left 2
    ·go_simp
     constructor
     ·rfl
     ·rfl
    refine hK.out _ _ ⟨hHeld.1, hHeld.2.1, hHeld.2.2⟩ (fun hHeld => ?_)
    clear hK K
    refine bI 16 ?_
    refine bU (i := 15) (N := some 22) ?_
    refine one_ (i := 1) (N := some 8) #[true,true,true,true,true,true,true,false,true,true,true,true,true,true,true,true,true,true,true,true,true,true,true,true,false,false,false,false,false,false] rfl rfl (one_of HT_.out (by kernel_rfl)) (by decide) (fun K hK => ?_)
    refine value_ (w1 := ?_) (v := ?_) (by rfl) rfl ?_ ?_
    rotate_left 2
    ·go_simp
     constructor
     ·rfl
     ·rfl
    refine hK.out _ _ ⟨hHeld.1, hHeld.2.1, hHeld.2.2⟩ (fun hHeld => ?_)
    clear hK K
    refine bI 8 ?_
    refine bU (i := 7) (N := some 14) ?_
    exact norm_ (by simp only [putAll, Act.put, List.setIfInBounds_toArray, List.set_cons_zero, List.set_cons_succ]) (hCont () _ rfl)
 intro _ w' hw_
 rw [hw_]
 clear hw_ w'
 refine norm_ (a' := ?_) ?_ ?_
 rotate_left
 ·simp only [putAll, Act.put, List.setIfInBounds_toArray, List.set_cons_zero, List.set_cons_succ]
  rfl
 refine bU (i := 24) (N := some 31) ?_
 refine one_ (i := 25) (N := none) #[true,true,true,true,true,true,true,true,true,true,true,true,true,true,true,true,true,true,true,true,true,true,true,true,true,true,false,false,false,false] rfl rfl (one_of HT_.out (by kernel_rfl)) (by decide) (fun K hK => ?_)
 refine skip_ (w1 := ?_) (by rfl) rfl ?_ ?_
 rotate_left
 ·go_simp
  rfl
 refine hK.out _ _ ⟨(cell_far (p := ⟨gn, _, none⟩) Ndn.out _).trans (hHeld.1), (cell_far (p := ⟨gn, _, none⟩) Ndn.out _).trans (hHeld.2.1), (cell_far (p := ⟨gn, _, none⟩) Ndn.out _).trans (hHeld.2.2)⟩ (fun hHeld => ?_)
 clear hK K
 refine bU (i := 26) (N := some 32) ?_
 refine one_ (i := 27) (N := none) #[true,true,true,true,true,true,true,true,true,true,true,true,true,true,true,true,true,true,true,true,true,true,true,true,true,true,true,true,false,false] rfl rfl (one_of HT_.out (by kernel_rfl)) (by decide) (fun K hK => ?_)
 refine skip_ (w1 := ?_) (by rfl) rfl ?_ ?_
 rotate_left
 ·go_simp
  rfl
 refine hK.out _ _ ⟨(cell_far (p := ⟨gn, _, none⟩) Ndn.out _).trans (hHeld.1), (cell_far (p := ⟨gn, _, none⟩) Ndn.out _).trans (hHeld.2.1), (cell_far (p := ⟨gn, _, none⟩) Ndn.out _).trans (hHeld.2.2)⟩ (fun hHeld => ?_)
 clear hK K
 refine bU (i := 28) (N := some 33) ?_
 refine one_ (i := 29) (N := none) #[true,true,true,true,true,true,true,true,true,true,true,true,true,true,true,true,true,true,true,true,true,true,true,true,true,true,true,true,true,true] rfl rfl (one_of HT_.out (by kernel_rfl)) (by decide) (fun K hK => ?_)
 refine skip_ (w1 := ?_) (by rfl) rfl ?_ ?_
 rotate_left
 ·go_simp
  rfl
 refine hK.out _ _ ⟨(cell_far (p := ⟨gn, _, none⟩) Ndn.out _).trans (hHeld.1), (cell_far (p := ⟨gn, _, none⟩) Ndn.out _).trans (hHeld.2.1), (cell_far (p := ⟨gn, _, none⟩) Ndn.out _).trans (hHeld.2.2)⟩ (fun hHeld => ?_)
 clear hK K
 refine done_ (done_of HT_.out (by kernel_rfl)) ?_

 have n0_ : Aside0 ((((w1_.setCell ⟨gn, 2, none⟩ (.int .i64 (wrap64 (a0_2 + Int.tmod a1_0 m_)))).setCell ⟨gn, 3, none⟩ (.int .i64 (wrap64 (a0_3 + Int.tmod a1_1 m_)))).setCell ⟨gn, 4, none⟩ (.int .i64 (wrap64 (a0_4 + Int.tmod a1_2 m_)))).heap[gn]? = some (.cells #[.int .i64 a0_0, .int .i64 a0_1, .int .i64 (wrap64 (a0_2 + Int.tmod a1_0 m_)), .int .i64 (wrap64 (a0_3 + Int.tmod a1_1 m_)), .int .i64 (wrap64 (a0_4 + Int.tmod a1_2 m_)), .int .i64 a0_5, .int .i64 a0_6, .int .i64 a0_7] 23 (0, 0))) := ⟨blk_put (blk_put (blk_put BKn.out 2 _ rfl) 3 _ rfl) 4 _ rfl⟩
 have n1_ : Aside0 ((((w1_.setCell ⟨gn, 2, none⟩ (.int .i64 (wrap64 (a0_2 + Int.tmod a1_0 m_)))).setCell ⟨gn, 3, none⟩ (.int .i64 (wrap64 (a0_3 + Int.tmod a1_1 m_)))).setCell ⟨gn, 4, none⟩ (.int .i64 (wrap64 (a0_4 + Int.tmod a1_2 m_)))).heap[gd]? = some (.cells #[.int .i64 a1_0, .int .i64 a1_1, .int .i64 a1_2, .int .i64 a1_3, .int .i64 a1_4, .int .i64 a1_5] 24 (0, 0))) := ⟨blk_far (blk_far (blk_far BKd.out Ndn.out _) Ndn.out _) Ndn.out _⟩
 have n2_ : Aside0 ((((w1_.setCell ⟨gn, 2, none⟩ (.int .i64 (wrap64 (a0_2 + Int.tmod a1_0 m_)))).setCell ⟨gn, 3, none⟩ (.int .i64 (wrap64 (a0_3 + Int.tmod a1_1 m_)))).setCell ⟨gn, 4, none⟩ (.int .i64 (wrap64 (a0_4 + Int.tmod a1_2 m_)))).heap[gr]? = some (.cells #[.int .i64 0, .int .i64 0, .int .i64 0, .int .i64 0, .int .i64 0, .int .i64 0, .int .i64 0, .int .i64 0] 23 (0, 0))) := ⟨blk_far (blk_far (blk_far BKr.out Nrn.out _) Nrn.out _) Nrn.out _⟩
 have n3_ : Aside0 (Below w.heap.size w (((w1_.setCell ⟨gn, 2, none⟩ (.int .i64 (wrap64 (a0_2 + Int.tmod a1_0 m_)))).setCell ⟨gn, 3, none⟩ (.int .i64 (wrap64 (a0_3 + Int.tmod a1_1 m_)))).setCell ⟨gn, 4, none⟩ (.int .i64 (wrap64 (a0_4 + Int.tmod a1_2 m_))))) := ⟨bX⟩
 (try clear hc2_ hc3_ hc4_ hf2_ hf3_ hf4_)
 clear BKn BKd BKr HB hHeld
 generalize (((w1_.setCell ⟨gn, 2, none⟩ (.int .i64 (wrap64 (a0_2 + Int.tmod a1_0 m_)))).setCell ⟨gn, 3, none⟩ (.int .i64 (wrap64 (a0_3 + Int.tmod a1_1 m_)))).setCell ⟨gn, 4, none⟩ (.int .i64 (wrap64 (a0_4 + Int.tmod a1_2 m_)))) = w2_ at n0_ n1_ n2_ n3_ ⊢
 have BKn := n0_
 have BKd := n1_
 have BKr := n2_
 have HB := n3_
 clear n0_ n1_ n2_ n3_
 try go_wp2
 replace BKn := bA (blk_drew BKn.out)
 replace BKd := bA (blk_drew BKd.out)
 replace BKr := bA (blk_drew BKr.out)
 replace HB := bA (below_drew1 HB.out)
 refine start_ (n := 30) (S := fun w' => w'.cell? ⟨gd, 3, none⟩ = some (.int .i64 a1_3) ∧ w'.cell? ⟨gd, 4, none⟩ = some (.int .i64 a1_4) ∧ w'.cell? ⟨gd, 5, none⟩ = some (.int .i64 a1_5)) (ds := []) #[false,false,false,false,false,false,false,false,false,false,false,false,false,false,false,false,false,false,false,false,false,false,false,false,false,false,false,false,false,false] (by kernel_rfl) rfl rfl ⟨bq BKd 3, bq BKd 4, bq BKd 5⟩ (fun hHeld => ?_)
 refine with_tabW apogeelaw18_Off.tab2 apogeelaw18_Off.bits2 (fun HT_ HW_ => ?_)
 generalize w2_.drew = w3_ at BKn BKd BKr HB hHeld ⊢
 have hc7_ : w3_.cell? ⟨gn, 7, none⟩ = some (.int .i64 a0_7) := bq BKn 7
 have hf7_ : w3_.frozen? ⟨gn, 7, none⟩ = false := blk_frozen BKn.out 7
 have hc6_ : w3_.cell? ⟨gn, 6, none⟩ = some (.int .i64 a0_6) := bq BKn 6
 have hf6_ : w3_.frozen? ⟨gn, 6, none⟩ = false := blk_frozen BKn.out 6
 have hc5_ : w3_.cell? ⟨gn, 5, none⟩ = some (.int .i64 a0_5) := bq BKn 5
 have hf5_ : w3_.frozen? ⟨gn, 5, none⟩ = false := blk_frozen BKn.out 5
 refine bU (i := 0) (N := some 34) ?_
 refine bU (i := 2) (N := some 36) ?_
 refine bU (i := 4) (N := some 38) ?_
 refine bU (i := 5) (N := some 39) ?_
 refine bU (i := 8) (N := some 42) ?_
 refine bU (i := 10) (N := some 44) ?_
 refine bU (i := 12) (N := some 46) ?_
 refine bU (i := 13) (N := some 47) ?_
 refine bU (i := 16) (N := some 50) ?_
 refine bU (i := 18) (N := some 52) ?_
 refine bU (i := 20) (N := some 54) ?_
 refine bU (i := 21) (N := some 55) ?_
 refine bW (i := 3) (N := some 37) hHeld ?_
 refine bU (i := 6) (N := some 40) ?_
 refine bW (i := 11) (N := some 45) hHeld ?_
 refine bU (i := 14) (N := some 48) ?_
 refine bW (i := 19) (N := some 53) hHeld ?_
 refine bU (i := 22) (N := some 56) ?_
 refine bJ (σ := Unit) 6 #[true,true,true,true,true,true,true,true,true,true,true,true,true,true,true,true,true,true,true,true,true,true,true,true,false,false,false,false,false,false] (fun _ => [(35, .int .i64 a0_5), (43, .int .i64 a0_6), (51, .int .i64 a0_7), (41, .int .i64 (wrap64 (a0_5 + Int.tmod a1_3 m_))), (49, .int .i64 (wrap64 (a0_6 + Int.tmod a1_4 m_))), (57, .int .i64 (wrap64 (a0_7 + Int.tmod a1_5 m_)))]) (fun _ w' => w' = w3_) ?_ ?_
 ·intro hCont
  refine three_ (i := 1) (j := 9) (k := 17) (Ni := some 35) (Nj := some 43) (Nk := some 51) #[true,true,true,true,true,true,true,false,true,false,true,true,true,true,true,false,true,false,true,true,true,true,true,false,false,false,false,false,false,false] #[true,false,true,true,true,true,true,false,true,true,true,true,true,true,true,false,true,false,true,true,true,true,true,false,false,false,false,false,false,false] #[true,false,true,true,true,true,true,false,true,false,true,true,true,true,true,false,true,true,true,true,true,true,true,false,false,false,false,false,false,false] rfl rfl rfl rfl rfl rfl (three_of HT_.out (by kernel_rfl)) (by decide) (by decide) (by decide) (fun K hK => ?_) (fun K hK => ?_) (fun K hK => ?_)
  ·skip
   refine value_ (w1 := ?_) (v := ?_) (by rfl) rfl ?_ ?_
   rotate_left 2
   ·go_simp
    constructor
    ·rfl
    ·rfl
   refine hK.out _ _ ⟨hHeld.1, hHeld.2.1, hHeld.2.2⟩ (fun hHeld => ?_)
   clear hK K
   refine bI 35 ?_
   refine bU (i := 7) (N := some 41) ?_
   refine two_ (i := 9) (j := 17) (Ni := some 43) (Nj := some 51) #[true,true,true,true,true,true,true,true,true,true,true,true,true,true,true,false,true,false,true,true,true,true,true,false,false,false,false,false,false,false] #[true,true,true,true,true,true,true,true,true,false,true,true,true,true,true,false,true,true,true,true,true,true,true,false,false,false,false,false,false,false] rfl rfl rfl rfl (two_of HT_.out (by kernel_rfl)) (by decide) (by decide) (fun K hK => ?_) (fun K hK => ?_)
   ·skip
    refine value_ (w1 := ?_) (v := ?_) (by rfl) rfl ?_ ?_
    rotate_left 2
    ·go_simp
     constructor
     ·rfl
     ·rfl
    refine hK.out _ _ ⟨hHeld.1, hHeld.2.1, hHeld.2.2⟩ (fun hHeld => ?_)
    clear hK K
    refine bI 43 ?_
    refine bU (i := 15) (N := some 49) ?_
    refine one_ (i := 17) (N := some 51) #[true,true,true,true,true,true,true,true,true,true,true,true,true,true,true,true,true,true,true,true,true,true,true,false,false,false,false,false,false,false] rfl rfl (one_of HT_.out (by kernel_rfl)) (by decide) (fun K hK => ?_)
    refine value_ (w1 := ?_) (v := ?_) (by rfl) rfl ?_ ?_
    rotate_left 2
    ·go_simp
     constructor
     ·rfl
     ·rfl
    refine hK.out _ _ ⟨hHeld.1, hHeld.2.1, hHeld.2.2⟩ (fun hHeld => ?_)
    clear hK K
    refine bI 51 ?_
    refine bU (i := 23) (N := some 57) ?_
    exact norm_ (by simp only [putAll, Act.put, List.setIfInBounds_toArray, List.set_cons_zero, List.set_cons_succ]) (hCont () _ rfl)
   ·skip
    refine value_ (w1 := ?_) (v := ?_) (by rfl) rfl ?_ ?_
    rotate_left 2
    ·go_simp
     constructor
     ·rfl
     ·rfl
    refine hK.out _ _ ⟨hHeld.1, hHeld.2.1, hHeld.2.2⟩ (fun hHeld => ?_)
    clear hK K
    refine bI 51 ?_
    refine bU (i := 23) (N := some 57) ?_
    refine one_ (i := 9) (N := some 43) #[true,true,true,true,true,true,true,true,true,true,true,true,true,true,true,false,true,true,true,true,true,true,true,true,false,false,false,false,false,false] rfl rfl (one_of HT_.out (by kernel_rfl)) (by decide) (fun K hK => ?_)
    refine value_ (w1 := ?_) (v := ?_) (by rfl) rfl ?_ ?_
    rotate_left 2
    ·go_simp
     constructor
     ·rfl
     ·rfl
    refine hK.out _ _ ⟨hHeld.1, hHeld.2.1, hHeld.2.2⟩ (fun hHeld => ?_)
    clear hK K
    refine bI 43 ?_
    refine bU (i := 15) (N := some 49) ?_
    exact norm_ (by simp only [putAll, Act.put, List.setIfInBounds_toArray, List.set_cons_zero, List.set_cons_succ]) (hCont () _ rfl)
  ·skip
   refine value_ (w1 := ?_) (v := ?_) (by rfl) rfl ?_ ?_
   rotate_left 2
   ·go_simp
    constructor
    ·rfl
    ·rfl
   refine hK.out _ _ ⟨hHeld.1, hHeld.2.1, hHeld.2.2⟩ (fun hHeld => ?_)
   clear hK K
   refine bI 43 ?_
   refine bU (i := 15) (N := some 49) ?_
   refine two_ (i := 1) (j := 17) (Ni := some 35) (Nj := some 51) #[true,true,true,true,true,true,true,false,true,true,true,true,true,true,true,true,true,false,true,true,true,true,true,false,false,false,false,false,false,false] #[true,false,true,true,true,true,true,false,true,true,true,true,true,true,true,true,true,true,true,true,true,true,true,false,false,false,false,false,false,false] rfl rfl rfl rfl (two_of HT_.out (by kernel_rfl)) (by decide) (by decide) (fun K hK => ?_) (fun K hK => ?_)
   ·skip
    refine value_ (w1 := ?_) (v := ?_) (by rfl) rfl ?_ ?_
    rotate_left 2
    ·go_simp
     constructor
     ·rfl
     ·rfl
    refine hK.out _ _ ⟨hHeld.1, hHeld.2.1, hHeld.2.2⟩ (fun hHeld => ?_)
    clear hK K
    refine bI 35 ?_
    refine bU (i := 7) (N := some 41) ?_
    refine one_ (i := 17) (N := some 51) #[true,true,true,true,true,true,true,true,true,true,true,true,true,true,true,true,true,true,true,true,true,true,true,false,false,false,false,false,false,false] rfl rfl (one_of HT_.out (by kernel_rfl)) (by decide) (fun K hK => ?_)
    refine value_ (w1 := ?_) (v := ?_) (by rfl) rfl ?_ ?_
    rotate_left 2
    ·go_simp
     constructor
     ·rfl
     ·rfl
    refine hK.out _ _ ⟨hHeld.1, hHeld.2.1, hHeld.2.2⟩ (fun hHeld => ?_)
    clear hK K
    refine bI 51 ?_
    refine bU (i := 23) (N := some 57) ?_
    exact norm_ (by simp only [putAll, Act.put, List.setIfInBounds_toArray, List.set_cons_zero, List.set_cons_succ]) (hCont () _ rfl)
   ·skip
    refine value_ (w1 := ?_) (v := ?_) (by rfl) rfl ?_ ?_
    rotate_left 2
    ·go_simp
     constructor
     ·rfl
     ·rfl
    refine hK.out _ _ ⟨hHeld.1, hHeld.2.1, hHeld.2.2⟩ (fun hHeld => ?_)
    clear hK K
    refine bI 51 ?_
    refine bU (i := 23) (N := some 57) ?_
    refine one_ (i := 1) (N := some 35) #[true,true,true,true,true,true,true,false,true,true,true,true,true,true,true,true,true,true,true,true,true,true,true,true,false,false,false,false,false,false] rfl rfl (one_of HT_.out (by kernel_rfl)) (by decide) (fun K hK => ?_)
    refine value_ (w1 := ?_) (v := ?_) (by rfl) rfl ?_ ?_
    rotate_left 2
    ·go_simp
     constructor
     ·rfl
     ·rfl
    refine hK.out _ _ ⟨hHeld.1, hHeld.2.1, hHeld.2.2⟩ (fun hHeld => ?_)
    clear hK K
    refine bI 35 ?_
    refine bU (i := 7) (N := some 41) ?_
    exact norm_ (by simp only [putAll, Act.put, List.setIfInBounds_toArray, List.set_cons_zero, List.set_cons_succ]) (hCont () _ rfl)
  ·skip
   refine value_ (w1 := ?_) (v := ?_) (by rfl) rfl ?_ ?_
   rotate_left 2
   ·go_simp
    constructor
    ·rfl
    ·rfl
   refine hK.out _ _ ⟨hHeld.1, hHeld.2.1, hHeld.2.2⟩ (fun hHeld => ?_)
   clear hK K
   refine bI 51 ?_
   refine bU (i := 23) (N := some 57) ?_
   refine two_ (i := 1) (j := 9) (Ni := some 35) (Nj := some 43) #[true,true,true,true,true,true,true,false,true,false,true,true,true,true,true,false,true,true,true,true,true,true,true,true,false,false,false,false,false,false] #[true,false,true,true,true,true,true,false,true,true,true,true,true,true,true,false,true,true,true,true,true,true,true,true,false,false,false,false,false,false] rfl rfl rfl rfl (two_of HT_.out (by kernel_rfl)) (by decide) (by decide) (fun K hK => ?_) (fun K hK => ?_)
   ·skip
    refine value_ (w1 := ?_) (v := ?_) (by rfl) rfl ?_ ?_
    rotate_left 2
    ·go_simp
     constructor
     ·rfl
     ·rfl
    refine hK.out _ _ ⟨hHeld.1, hHeld.2.1, hHeld.2.2⟩ (fun hHeld => ?_)
    clear hK K
    refine bI 35 ?_
    refine bU (i := 7) (N := some 41) ?_
    refine one_ (i := 9) (N := some 43) #[true,true,true,true,true,true,true,true,true,true,true,true,true,true,true,false,true,true,true,true,true,true,true,true,false,false,false,false,false,false] rfl rfl (one_of HT_.out (by kernel_rfl)) (by decide) (fun K hK => ?_)
    refine value_ (w1 := ?_) (v := ?_) (by rfl) rfl ?_ ?_
    rotate_left 2
    ·go_simp
     constructor
     ·rfl
     ·rfl
    refine hK.out _ _ ⟨hHeld.1, hHeld.2.1, hHeld.2.2⟩ (fun hHeld => ?_)
    clear hK K
    refine bI 43 ?_
    refine bU (i := 15) (N := some 49) ?_
    exact norm_ (by simp only [putAll, Act.put, List.setIfInBounds_toArray, List.set_cons_zero, List.set_cons_succ]) (hCont () _ rfl)
   ·skip
    refine value_ (w1 := ?_) (v := ?_) (by rfl) rfl ?_ ?_
    rotate_left 2
    ·go_simp
     constructor
     ·rfl
     ·rfl
    refine hK.out _ _ ⟨hHeld.1, hHeld.2.1, hHeld.2.2⟩ (fun hHeld => ?_)
    clear hK K
    refine bI 43 ?_
    refine bU (i := 15) (N := some 49) ?_
    refine one_ (i := 1) (N := some 35) #[true,true,true,true,true,true,true,false,true,true,true,true,true,true,true,true,true,true,true,true,true,true,true,true,false,false,false,false,false,false] rfl rfl (one_of HT_.out (by kernel_rfl)) (by decide) (fun K hK => ?_)
    refine value_ (w1 := ?_) (v := ?_) (by rfl) rfl ?_ ?_
    rotate_left 2
    ·go_simp
     constructor
     ·rfl
     ·rfl
    refine hK.out _ _ ⟨hHeld.1, hHeld.2.1, hHeld.2.2⟩ (fun hHeld => ?_)
    clear hK K
    refine bI 35 ?_
    refine bU (i := 7) (N := some 41) ?_
    exact norm_ (by simp only [putAll, Act.put, List.setIfInBounds_toArray, List.set_cons_zero, List.set_cons_succ]) (hCont () _ rfl)
 intro _ w' hw_
 rw [hw_]
 clear hw_ w'
 refine norm_ (a' := ?_) ?_ ?_
 rotate_left
 ·simp only [putAll, Act.put, List.setIfInBounds_toArray, List.set_cons_zero, List.set_cons_succ]
  rfl
 refine bU (i := 24) (N := some 58) ?_
 refine one_ (i := 25) (N := none) #[true,true,true,true,true,true,true,true,true,true,true,true,true,true,true,true,true,true,true,true,true,true,true,true,true,true,false,false,false,false] rfl rfl (one_of HT_.out (by kernel_rfl)) (by decide) (fun K hK => ?_)
 refine skip_ (w1 := ?_) (by rfl) rfl ?_ ?_
 rotate_left
 ·go_simp
  rfl
 refine hK.out _ _ ⟨(cell_far (p := ⟨gn, _, none⟩) Ndn.out _).trans (hHeld.1), (cell_far (p := ⟨gn, _, none⟩) Ndn.out _).trans (hHeld.2.1), (cell_far (p := ⟨gn, _, none⟩) Ndn.out _).trans (hHeld.2.2)⟩ (fun hHeld => ?_)
 clear hK K
 refine bU (i := 26) (N := some 59) ?_
 refine one_ (i := 27) (N := none) #[true,true,true,true,true,true,true,true,true,true,true,true,true,true,true,true,true,true,true,true,true,true,true,true,true,true,true,true,false,false] rfl rfl (one_of HT_.out (by kernel_rfl)) (by decide) (fun K hK => ?_)
 refine skip_ (w1 := ?_) (by rfl) rfl ?_ ?_
 rotate_left
 ·go_simp
  rfl
 refine hK.out _ _ ⟨(cell_far (p := ⟨gn, _, none⟩) Ndn.out _).trans (hHeld.1), (cell_far (p := ⟨gn, _, none⟩) Ndn.out _).trans (hHeld.2.1), (cell_far (p := ⟨gn, _, none⟩) Ndn.out _).trans (hHeld.2.2)⟩ (fun hHeld => ?_)
 clear hK K
 refine bU (i := 28) (N := some 60) ?_
 refine one_ (i := 29) (N := none) #[true,true,true,true,true,true,true,true,true,true,true,true,true,true,true,true,true,true,true,true,true,true,true,true,true,true,true,true,true,true] rfl rfl (one_of HT_.out (by kernel_rfl)) (by decide) (fun K hK => ?_)
 refine skip_ (w1 := ?_) (by rfl) rfl ?_ ?_
 rotate_left
 ·go_simp
  rfl
 refine hK.out _ _ ⟨(cell_far (p := ⟨gn, _, none⟩) Ndn.out _).trans (hHeld.1), (cell_far (p := ⟨gn, _, none⟩) Ndn.out _).trans (hHeld.2.1), (cell_far (p := ⟨gn, _, none⟩) Ndn.out _).trans (hHeld.2.2)⟩ (fun hHeld => ?_)
 clear hK K
 refine done_ (done_of HT_.out (by kernel_rfl)) ?_

 have n0_ : Aside0 ((((w3_.setCell ⟨gn, 5, none⟩ (.int .i64 (wrap64 (a0_5 + Int.tmod a1_3 m_)))).setCell ⟨gn, 6, none⟩ (.int .i64 (wrap64 (a0_6 + Int.tmod a1_4 m_)))).setCell ⟨gn, 7, none⟩ (.int .i64 (wrap64 (a0_7 + Int.tmod a1_5 m_)))).heap[gn]? = some (.cells #[.int .i64 a0_0, .int .i64 a0_1, .int .i64 (wrap64 (a0_2 + Int.tmod a1_0 m_)), .int .i64 (wrap64 (a0_3 + Int.tmod a1_1 m_)), .int .i64 (wrap64 (a0_4 + Int.tmod a1_2 m_)), .int .i64 (wrap64 (a0_5 + Int.tmod a1_3 m_)), .int .i64 (wrap64 (a0_6 + Int.tmod a1_4 m_)), .int .i64 (wrap64 (a0_7 + Int.tmod a1_5 m_))] 23 (0, 0))) := ⟨blk_put (blk_put (blk_put BKn.out 5 _ rfl) 6 _ rfl) 7 _ rfl⟩
 have n1_ : Aside0 ((((w3_.setCell ⟨gn, 5, none⟩ (.int .i64 (wrap64 (a0_5 + Int.tmod a1_3 m_)))).setCell ⟨gn, 6, none⟩ (.int .i64 (wrap64 (a0_6 + Int.tmod a1_4 m_)))).setCell ⟨gn, 7, none⟩ (.int .i64 (wrap64 (a0_7 + Int.tmod a1_5 m_)))).heap[gd]? = some (.cells #[.int .i64 a1_0, .int .i64 a1_1, .int .i64 a1_2, .int .i64 a1_3, .int .i64 a1_4, .int .i64 a1_5] 24 (0, 0))) := ⟨blk_far (blk_far (blk_far BKd.out Ndn.out _) Ndn.out _) Ndn.out _⟩
 have n2_ : Aside0 ((((w3_.setCell ⟨gn, 5, none⟩ (.int .i64 (wrap64 (a0_5 + Int.tmod a1_3 m_)))).setCell ⟨gn, 6, none⟩ (.int .i64 (wrap64 (a0_6 + Int.tmod a1_4 m_)))).setCell ⟨gn, 7, none⟩ (.int .i64 (wrap64 (a0_7 + Int.tmod a1_5 m_)))).heap[gr]? = some (.cells #[.int .i64 0, .int .i64 0, .int .i64 0, .int .i64 0, .int .i64 0, .int .i64 0, .int .i64 0, .int .i64 0] 23 (0, 0))) := ⟨blk_far (blk_far (blk_far BKr.out Nrn.out _) Nrn.out _) Nrn.out _⟩
 have n3_ : Aside0 (Below w.heap.size w (((w3_.setCell ⟨gn, 5, none⟩ (.int .i64 (wrap64 (a0_5 + Int.tmod a1_3 m_)))).setCell ⟨gn, 6, none⟩ (.int .i64 (wrap64 (a0_6 + Int.tmod a1_4 m_)))).setCell ⟨gn, 7, none⟩ (.int .i64 (wrap64 (a0_7 + Int.tmod a1_5 m_))))) := ⟨bX⟩
 (try clear hc5_ hc6_ hc7_ hf5_ hf6_ hf7_)
 clear BKn BKd BKr HB hHeld
 generalize (((w3_.setCell ⟨gn, 5, none⟩ (.int .i64 (wrap64 (a0_5 + Int.tmod a1_3 m_)))).setCell ⟨gn, 6, none⟩ (.int .i64 (wrap64 (a0_6 + Int.tmod a1_4 m_)))).setCell ⟨gn, 7, none⟩ (.int .i64 (wrap64 (a0_7 + Int.tmod a1_5 m_)))) = w4_ at n0_ n1_ n2_ n3_ ⊢
 have BKn := n0_
 have BKd := n1_
 have BKr := n2_
 have HB := n3_
 clear n0_ n1_ n2_ n3_
 obtain ⟨z0, z1, z2, z3, z4, z5, z6, z7, y0, y1, y2, y3, y4, y5, y6, y7⟩ := bc8 BKn
 obtain ⟨u0, u1, u2, u3, u4, u5, u6, u7, v0, v1, v2, v3, v4, v5, v6, v7⟩ := bc8 BKr
 try go_wp2
 refine bodyPost_ret (results_cell_row rfl _ _ gr 23 #[.int .i64 a0_0, .int .i64 a0_1, .int .i64 (wrap64 (a0_2 + Int.tmod a1_0 m_)), .int .i64 (wrap64 (a0_3 + Int.tmod a1_1 m_)), .int .i64 (wrap64 (a0_4 + Int.tmod a1_2 m_)), .int .i64 (wrap64 (a0_5 + Int.tmod a1_3 m_)), .int .i64 (wrap64 (a0_6 + Int.tmod a1_4 m_)), .int .i64 (wrap64 (a0_7 + Int.tmod a1_5 m_))] (0, 0) _ rfl (by refine blk_put (cs := #[.int .i64 a0_0, .int .i64 a0_1, .int .i64 (wrap64 (a0_2 + Int.tmod a1_0 m_)), .int .i64 (wrap64 (a0_3 + Int.tmod a1_1 m_)), .int .i64 (wrap64 (a0_4 + Int.tmod a1_2 m_)), .int .i64 (wrap64 (a0_5 + Int.tmod a1_3 m_)), .int .i64 (wrap64 (a0_6 + Int.tmod a1_4 m_)), .int .i64 0]) ?_ 7 _ rfl; refine blk_put (cs := #[.int .i64 a0_0, .int .i64 a0_1, .int .i64 (wrap64 (a0_2 + Int.tmod a1_0 m_)), .int .i64 (wrap64 (a0_3 + Int.tmod a1_1 m_)), .int .i64 (wrap64 (a0_4 + Int.tmod a1_2 m_)), .int .i64 (wrap64 (a0_5 + Int.tmod a1_3 m_)), .int .i64 0, .int .i64 0]) ?_ 6 _ rfl; refine blk_put (cs := #[.int .i64 a0_0, .int .i64 a0_1, .int .i64 (wrap64 (a0_2 + Int.tmod a1_0 m_)), .int .i64 (wrap64 (a0_3 + Int.tmod a1_1 m_)), .int .i64 (wrap64 (a0_4 + Int.tmod a1_2 m_)), .int .i64 0, .int .i64 0, .int .i64 0]) ?_ 5 _ rfl; refine blk_put (cs := #[.int .i64 a0_0, .int .i64 a0_1, .int .i64 (wrap64 (a0_2 + Int.tmod a1_0 m_)), .int .i64 (wrap64 (a0_3 + Int.tmod a1_1 m_)), .int .i64 0, .int .i64 0, .int .i64 0, .int .i64 0]) ?_ 4 _ rfl; refine blk_put (cs := #[.int .i64 a0_0, .int .i64 a0_1, .int .i64 (wrap64 (a0_2 + Int.tmod a1_0 m_)), .int .i64 0, .int .i64 0, .int .i64 0, .int .i64 0, .int .i64 0]) ?_ 3 _ rfl; refine blk_put (cs := #[.int .i64 a0_0, .int .i64 a0_1, .int .i64 0, .int .i64 0, .int .i64 0, .int .i64 0, .int .i64 0, .int .i64 0]) ?_ 2 _ rfl; refine blk_put (cs := #[.int .i64 a0_0, .int .i64 0, .int .i64 0, .int .i64 0, .int .i64 0, .int .i64 0, .int .i64 0, .int .i64 0]) ?_ 1 _ rfl; refine blk_put (cs := #[.int .i64 0, .int .i64 0, .int .i64 0, .int .i64 0, .int .i64 0, .int .i64 0, .int .i64 0, .int .i64 0]) ?_ 0 _ rfl; exact BKr.out) Try.underlying23 rfl (by kernel_rfl)) rfl ?_
 exact bF
end Go.Proofs.Ytfeekdoakoabeaa.G
