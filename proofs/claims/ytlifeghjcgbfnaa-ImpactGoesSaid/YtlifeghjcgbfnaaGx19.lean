-- Written by a program of this session out of the translation; Lean checks it.
import Derived.Test.YtlifeghjcgbfnaaGx0
import Derived.Test.YtlifeghjcgbfnaaGx2
import Derived.Test.YtlifeghjcgbfnaaGx7
import Derived.Test.YtlifeghjcgbfnaaGx16
import Derived.Test.YtlifeghjcgbfnaaGx17
import Derived.Test.YtlifeghjcgbfnaaGx18
namespace Go.Proofs.Ytlifeghjcgbfnaa.G
open Go.RowKit Go.Proofs.YtlifeghjcgbfnaaW.PrintWords Go.Proofs.YtlifeghjcgbfnaaW.PrintLast Go.Proofs.YtlifeghjcgbfnaaW.PrintMore
attribute [local go_sem] max2_int min2_int max_two min_two max_three min_three max_four min_four   -- for this text's walks alone
set_option linter.unusedVariables false
set_option linter.unusedSimpArgs false

attribute [local go_sem high] eqA42
/-! ### apogeelaw18_ImpactGoes: function 6 -/
def apogeelaw18_ImpactGoes.j0 : Nat → Int → Bool → Int → Int → Int → Int → Int → Int → Int → Int → Int → Int → Int → Int → Int → Int → Int → Int → Int → Int → Int → Int → Option (Bool)
 | 0, _, _, _, _, _, _, _, _, _, _, _, _, _, _, _, _, _, _, _, _, _, _ => none
 | k + 1, x1, x58, x501000, x501001, x501002, x501003, x501004, x501005, x501006, x501007, x515000, x515001, x515002, x515003, x516000, x516001, x516002, x516003, x516004, x516005, x516006, x516007 => if x58 = true then (none) else (if x516004 < 0 then (some true) else ((impact_Box.f k x516000 x516001 x516002 x516003 x516004 x516005 x516006 x516007 x1 0).bind fun bt517 => (if bt517.2.2.2.2 = true then ((apogeeref17_Time.f k x516004 x516007 x1).bind fun t523 => ((apogeeref17_Time.f k x501004 x501007 x1).bind fun t524 => (if (wrap64 (t523 + 1)) = t524 then (some ((bt517.1 == x515000 && (bt517.2.1 == x515001)) && ((bt517.2.2.1 == x515002 && (bt517.2.2.2.1 == x515003))))) else (none)))) else (none))))
def apogeelaw18_ImpactGoes.f (k : Nat) (a0_0 : Int) (a0_1 : Int) (a0_2 : Int) (a0_3 : Int) (a0_4 : Int) (a0_5 : Int) (a0_6 : Int) (a0_7 : Int) (a1 : Int) : Option (Bool) := (apogeelaw18_Held.f a0_0 a0_1 a0_2 a0_3 a0_4 a0_5 a0_6 a0_7).bind fun bt501 => ((impact_Box.f k bt501.1 bt501.2.1 bt501.2.2.1 bt501.2.2.2.1 bt501.2.2.2.2.1 bt501.2.2.2.2.2.1 bt501.2.2.2.2.2.2.1 bt501.2.2.2.2.2.2.2 (wrap64 ((wrap64 (1 + (wrap64 (Int.tmod (IntKind.u64.wrap (a1)) 50)))) * 2)) 0).bind fun bt509 => ((apogeelaw18_awake.f k).bind fun t516 => (if t516 = true then (apogeelaw18_ImpactGoes.j0 k (wrap64 ((wrap64 (1 + (wrap64 (Int.tmod (IntKind.u64.wrap (a1)) 50)))) * 2)) (!bt509.2.2.2.2) bt501.1 bt501.2.1 bt501.2.2.1 bt501.2.2.2.1 bt501.2.2.2.2.1 bt501.2.2.2.2.2.1 bt501.2.2.2.2.2.2.1 bt501.2.2.2.2.2.2.2 bt509.1 bt509.2.1 bt509.2.2.1 bt509.2.2.2.1 bt501.1 bt501.2.1 (wrap64 (bt501.2.2.1 + bt501.2.2.2.2.2.1)) (wrap64 (bt501.2.2.2.1 + bt501.2.2.2.2.2.2.1)) (wrap64 ((wrap64 (bt501.2.2.2.2.1 + bt501.2.2.2.2.2.2.2)) - (wrap64 (Int.tdiv (wrap64 ((wrap64 (1 + (wrap64 (Int.tmod (IntKind.u64.wrap (a1)) 50)))) * 2)) 2)))) bt501.2.2.2.2.2.1 bt501.2.2.2.2.2.2.1 (wrap64 (bt501.2.2.2.2.2.2.2 - (wrap64 ((wrap64 (1 + (wrap64 (Int.tmod (IntKind.u64.wrap (a1)) 50)))) * 2))))) else (apogeelaw18_ImpactGoes.j0 k (wrap64 ((wrap64 (1 + (wrap64 (Int.tmod (IntKind.u64.wrap (a1)) 50)))) * 2)) true bt501.1 bt501.2.1 bt501.2.2.1 bt501.2.2.2.1 bt501.2.2.2.2.1 bt501.2.2.2.2.2.1 bt501.2.2.2.2.2.2.1 bt501.2.2.2.2.2.2.2 bt509.1 bt509.2.1 bt509.2.2.1 bt509.2.2.2.1 bt501.1 bt501.2.1 (wrap64 (bt501.2.2.1 + bt501.2.2.2.2.2.1)) (wrap64 (bt501.2.2.2.1 + bt501.2.2.2.2.2.2.1)) (wrap64 ((wrap64 (bt501.2.2.2.2.1 + bt501.2.2.2.2.2.2.2)) - (wrap64 (Int.tdiv (wrap64 ((wrap64 (1 + (wrap64 (Int.tmod (IntKind.u64.wrap (a1)) 50)))) * 2)) 2)))) bt501.2.2.2.2.2.1 bt501.2.2.2.2.2.2.1 (wrap64 (bt501.2.2.2.2.2.2.2 - (wrap64 ((wrap64 (1 + (wrap64 (Int.tmod (IntKind.u64.wrap (a1)) 50)))) * 2))))))))
theorem apogeelaw18_ImpactGoes.mono_l : ∀ k, (∀ y0 y1 y2 y3 y4 y5 y6 y7 y8 y9 y10 y11 y12 y13 y14 y15 y16 y17 y18 y19 y20 y21, LeO (apogeelaw18_ImpactGoes.j0 k y0 y1 y2 y3 y4 y5 y6 y7 y8 y9 y10 y11 y12 y13 y14 y15 y16 y17 y18 y19 y20 y21) (apogeelaw18_ImpactGoes.j0 (k + 1) y0 y1 y2 y3 y4 y5 y6 y7 y8 y9 y10 y11 y12 y13 y14 y15 y16 y17 y18 y19 y20 y21))
 | 0 => fun _ _ _ _ _ _ _ _ _ _ _ _ _ _ _ _ _ _ _ _ _ _ r h => by simp [apogeelaw18_ImpactGoes.j0] at h
 | k + 1 => by
  have ih0 := apogeelaw18_ImpactGoes.mono_l k
  ·intro y0 y1 y2 y3 y4 y5 y6 y7 y8 y9 y10 y11 y12 y13 y14 y15 y16 y17 y18 y19 y20 y21
   unfold apogeelaw18_ImpactGoes.j0
   repeat' first
   | (with_reducible exact ih0 _ _ _ _ _ _ _ _ _ _ _ _ _ _ _ _ _ _ _ _ _ _)
   | (with_reducible exact apogeelaw18_awake.mono _)
   | (with_reducible exact apogeeref17_Time.mono _ _ _ _)
   | (with_reducible exact impact_Box.mono _ _ _ _ _ _ _ _ _ _ _)
   | (with_reducible exact LeO.refl _)
   | (with_reducible exact LeO.none _)
   | (with_reducible refine LeO.ite ?_ ?_)
   | (with_reducible refine LeO.bind ?_ (fun _ => ?_))
   | exact ih0 _ _ _ _ _ _ _ _ _ _ _ _ _ _ _ _ _ _ _ _ _ _
   | exact apogeelaw18_awake.mono _
   | exact apogeeref17_Time.mono _ _ _ _
   | exact impact_Box.mono _ _ _ _ _ _ _ _ _ _ _
   | exact LeO.none _
   | refine LeO.ite ?_ ?_
   | refine LeO.bind ?_ (fun _ => ?_)
theorem apogeelaw18_ImpactGoes.mono : ∀ a0 a1 a2 a3 a4 a5 a6 a7 a8 k, LeO (apogeelaw18_ImpactGoes.f k a0 a1 a2 a3 a4 a5 a6 a7 a8) (apogeelaw18_ImpactGoes.f (k + 1) a0 a1 a2 a3 a4 a5 a6 a7 a8) := by
 intro a0 a1 a2 a3 a4 a5 a6 a7 a8 k
 have ih0 := apogeelaw18_ImpactGoes.mono_l k
 unfold apogeelaw18_ImpactGoes.f
 repeat' first
   | (with_reducible exact ih0 _ _ _ _ _ _ _ _ _ _ _ _ _ _ _ _ _ _ _ _ _ _)
   | (with_reducible exact apogeelaw18_awake.mono _)
   | (with_reducible exact apogeeref17_Time.mono _ _ _ _)
   | (with_reducible exact impact_Box.mono _ _ _ _ _ _ _ _ _ _ _)
   | (with_reducible exact LeO.refl _)
   | (with_reducible exact LeO.none _)
   | (with_reducible refine LeO.ite ?_ ?_)
   | (with_reducible refine LeO.bind ?_ (fun _ => ?_))
   | exact ih0 _ _ _ _ _ _ _ _ _ _ _ _ _ _ _ _ _ _ _ _ _ _
   | exact apogeelaw18_awake.mono _
   | exact apogeeref17_Time.mono _ _ _ _
   | exact impact_Box.mono _ _ _ _ _ _ _ _ _ _ _
   | exact LeO.none _
   | refine LeO.ite ?_ ?_
   | refine LeO.bind ?_ (fun _ => ?_)
def apogeelaw18_ImpactGoes.T5 : Bool × List (List Nat × List Nat) := (true, [([], []), ([0], [0]), ([], []), ([2], [2]), ([1, 3], [1, 3]), ([], []), ([5], [5]), ([], []), ([7], [7]), ([6, 8], [6, 8]), ([], []), ([10], [10]), ([], []), ([12], [12]), ([11, 13], [11, 13]), ([], []), ([15], [15]), ([14, 16], [14, 16]), ([], []), ([18], [18]), ([], []), ([19, 20], [19, 20]), ([0, 1, 2, 3, 4], []), ([22, 4, 0, 1, 2, 3, 4], [4, 22]), ([0, 1, 2, 3, 4, 5, 6, 7, 8, 9, 22, 23], []), ([24, 9, 23, 0, 1, 2, 3, 4, 5, 6, 7, 8, 9, 22, 23], [9, 24]), ([0, 1, 2, 3, 4, 5, 6, 7, 8, 9, 10, 11, 12, 13, 14, 15, 16, 17, 22, 23, 24, 25], []), ([26, 17, 25, 0, 1, 2, 3, 4, 5, 6, 7, 8, 9, 10, 11, 12, 13, 14, 15, 16, 17, 22, 23, 24, 25], [17, 26]), ([0, 1, 2, 3, 4, 5, 6, 7, 8, 9, 10, 11, 12, 13, 14, 15, 16, 17, 18, 19, 20, 21, 22, 23, 24, 25, 26, 27], []), ([28, 21, 27, 0, 1, 2, 3, 4, 5, 6, 7, 8, 9, 10, 11, 12, 13, 14, 15, 16, 17, 18, 19, 20, 21, 22, 23, 24, 25, 26, 27], [21, 28])])
def apogeelaw18_ImpactGoes.B5 : List Nat := [0, 1, 0, 4, 15, 0, 32, 0, 128, 480, 0, 1024, 0, 4096, 15360, 0, 32768, 130048, 0, 262144, 0, 1835008, 31, 4194335, 12583935, 29361151, 63176703, 130285567, 268435455, 536870911]
theorem apogeelaw18_ImpactGoes.tab5 : rtab .any (opsOf Try.f6 5) = apogeelaw18_ImpactGoes.T5 := by kernel_rfl
theorem apogeelaw18_ImpactGoes.bits5 : waitsOk apogeelaw18_ImpactGoes.T5.2 apogeelaw18_ImpactGoes.B5 = true := by kernel_rfl
set_option maxHeartbeats 8000000 in
set_option maxRecDepth 100000 in
theorem apogeelaw18_ImpactGoes.calls (k : Nat) (a0_0 : Int) (a0_1 : Int) (a0_2 : Int) (a0_3 : Int) (a0_4 : Int) (a0_5 : Int) (a0_6 : Int) (a0_7 : Int) (a1 : Int) (r : Bool) (w : World) (h : apogeelaw18_ImpactGoes.f k a0_0 a0_1 a0_2 a0_3 a0_4 a0_5 a0_6 a0_7 a1 = some r) :
  Calls Try.prog 6 #[.agg #[.int .i64 a0_0, .int .i64 a0_1, .int .i64 a0_2, .int .i64 a0_3, .int .i64 a0_4, .int .i64 a0_5, .int .i64 a0_6, .int .i64 a0_7], .int .i64 a1] w fun e w' => e = .returned (.bool r) ∧ Below w.heap.size w w' := by
 have hu37 := Try.underlying37
 have hu42 := Try.underlying42
 have HB := bA (Below.refl w.heap.size w)
 have H : ((apogeelaw18_Held.f a0_0 a0_1 a0_2 a0_3 a0_4 a0_5 a0_6 a0_7).bind fun bt501 => ((impact_Box.f k bt501.1 bt501.2.1 bt501.2.2.1 bt501.2.2.2.1 bt501.2.2.2.2.1 bt501.2.2.2.2.2.1 bt501.2.2.2.2.2.2.1 bt501.2.2.2.2.2.2.2 (wrap64 ((wrap64 (1 + (wrap64 (Int.tmod (IntKind.u64.wrap (a1)) 50)))) * 2)) 0).bind fun bt509 => ((apogeelaw18_awake.f k).bind fun t516 => (if t516 = true then (apogeelaw18_ImpactGoes.j0 k (wrap64 ((wrap64 (1 + (wrap64 (Int.tmod (IntKind.u64.wrap (a1)) 50)))) * 2)) (!bt509.2.2.2.2) bt501.1 bt501.2.1 bt501.2.2.1 bt501.2.2.2.1 bt501.2.2.2.2.1 bt501.2.2.2.2.2.1 bt501.2.2.2.2.2.2.1 bt501.2.2.2.2.2.2.2 bt509.1 bt509.2.1 bt509.2.2.1 bt509.2.2.2.1 bt501.1 bt501.2.1 (wrap64 (bt501.2.2.1 + bt501.2.2.2.2.2.1)) (wrap64 (bt501.2.2.2.1 + bt501.2.2.2.2.2.2.1)) (wrap64 ((wrap64 (bt501.2.2.2.2.1 + bt501.2.2.2.2.2.2.2)) - (wrap64 (Int.tdiv (wrap64 ((wrap64 (1 + (wrap64 (Int.tmod (IntKind.u64.wrap (a1)) 50)))) * 2)) 2)))) bt501.2.2.2.2.2.1 bt501.2.2.2.2.2.2.1 (wrap64 (bt501.2.2.2.2.2.2.2 - (wrap64 ((wrap64 (1 + (wrap64 (Int.tmod (IntKind.u64.wrap (a1)) 50)))) * 2))))) else (apogeelaw18_ImpactGoes.j0 k (wrap64 ((wrap64 (1 + (wrap64 (Int.tmod (IntKind.u64.wrap (a1)) 50)))) * 2)) true bt501.1 bt501.2.1 bt501.2.2.1 bt501.2.2.2.1 bt501.2.2.2.2.1 bt501.2.2.2.2.2.1 bt501.2.2.2.2.2.2.1 bt501.2.2.2.2.2.2.2 bt509.1 bt509.2.1 bt509.2.2.1 bt509.2.2.2.1 bt501.1 bt501.2.1 (wrap64 (bt501.2.2.1 + bt501.2.2.2.2.2.1)) (wrap64 (bt501.2.2.2.1 + bt501.2.2.2.2.2.2.1)) (wrap64 ((wrap64 (bt501.2.2.2.2.1 + bt501.2.2.2.2.2.2.2)) - (wrap64 (Int.tdiv (wrap64 ((wrap64 (1 + (wrap64 (Int.tmod (IntKind.u64.wrap (a1)) 50)))) * 2)) 2)))) bt501.2.2.2.2.2.1 bt501.2.2.2.2.2.2.1 (wrap64 (bt501.2.2.2.2.2.2.2 - (wrap64 ((wrap64 (1 + (wrap64 (Int.tmod (IntKind.u64.wrap (a1)) 50)))) * 2))))))))) = some r := h
 clear h
 replace H := Option.bind_eq_some_iff.mp H
 obtain ⟨⟨t501, t502, t503, t504, t505, t506, t507, t508⟩, A30, H⟩ := H
 replace H : ((impact_Box.f k t501 t502 t503 t504 t505 t506 t507 t508 (wrap64 ((wrap64 (1 + (wrap64 (Int.tmod (IntKind.u64.wrap (a1)) 50)))) * 2)) 0).bind fun bt509 => ((apogeelaw18_awake.f k).bind fun t516 => (if t516 = true then (apogeelaw18_ImpactGoes.j0 k (wrap64 ((wrap64 (1 + (wrap64 (Int.tmod (IntKind.u64.wrap (a1)) 50)))) * 2)) (!bt509.2.2.2.2) t501 t502 t503 t504 t505 t506 t507 t508 bt509.1 bt509.2.1 bt509.2.2.1 bt509.2.2.2.1 t501 t502 (wrap64 (t503 + t506)) (wrap64 (t504 + t507)) (wrap64 ((wrap64 (t505 + t508)) - (wrap64 (Int.tdiv (wrap64 ((wrap64 (1 + (wrap64 (Int.tmod (IntKind.u64.wrap (a1)) 50)))) * 2)) 2)))) t506 t507 (wrap64 (t508 - (wrap64 ((wrap64 (1 + (wrap64 (Int.tmod (IntKind.u64.wrap (a1)) 50)))) * 2))))) else (apogeelaw18_ImpactGoes.j0 k (wrap64 ((wrap64 (1 + (wrap64 (Int.tmod (IntKind.u64.wrap (a1)) 50)))) * 2)) true t501 t502 t503 t504 t505 t506 t507 t508 bt509.1 bt509.2.1 bt509.2.2.1 bt509.2.2.2.1 t501 t502 (wrap64 (t503 + t506)) (wrap64 (t504 + t507)) (wrap64 ((wrap64 (t505 + t508)) - (wrap64 (Int.tdiv (wrap64 ((wrap64 (1 + (wrap64 (Int.tmod (IntKind.u64.wrap (a1)) 50)))) * 2)) 2)))) t506 t507 (wrap64 (t508 - (wrap64 ((wrap64 (1 + (wrap64 (Int.tmod (IntKind.u64.wrap (a1)) 50)))) * 2)))))))) = some r := H
 have A3 := bA A30
 clear A30
 replace H := Option.bind_eq_some_iff.mp H
 obtain ⟨⟨t509, t510, t511, t512, t513⟩, A40, H⟩ := H
 replace H : ((apogeelaw18_awake.f k).bind fun t516 => (if t516 = true then (apogeelaw18_ImpactGoes.j0 k (wrap64 ((wrap64 (1 + (wrap64 (Int.tmod (IntKind.u64.wrap (a1)) 50)))) * 2)) (!t513) t501 t502 t503 t504 t505 t506 t507 t508 t509 t510 t511 t512 t501 t502 (wrap64 (t503 + t506)) (wrap64 (t504 + t507)) (wrap64 ((wrap64 (t505 + t508)) - (wrap64 (Int.tdiv (wrap64 ((wrap64 (1 + (wrap64 (Int.tmod (IntKind.u64.wrap (a1)) 50)))) * 2)) 2)))) t506 t507 (wrap64 (t508 - (wrap64 ((wrap64 (1 + (wrap64 (Int.tmod (IntKind.u64.wrap (a1)) 50)))) * 2))))) else (apogeelaw18_ImpactGoes.j0 k (wrap64 ((wrap64 (1 + (wrap64 (Int.tmod (IntKind.u64.wrap (a1)) 50)))) * 2)) true t501 t502 t503 t504 t505 t506 t507 t508 t509 t510 t511 t512 t501 t502 (wrap64 (t503 + t506)) (wrap64 (t504 + t507)) (wrap64 ((wrap64 (t505 + t508)) - (wrap64 (Int.tdiv (wrap64 ((wrap64 (1 + (wrap64 (Int.tmod (IntKind.u64.wrap (a1)) 50)))) * 2)) 2)))) t506 t507 (wrap64 (t508 - (wrap64 ((wrap64 (1 + (wrap64 (Int.tmod (IntKind.u64.wrap (a1)) 50)))) * 2))))))) = some r := H
 have A4 := bA A40
 clear A40
 have HC5 := bA H
 clear H
 go_enter Try.func6, Try.ntmps6
 try go_wp2_with (first | ((with_reducible refine gate_dst (N := 2) rfl ?_); refine bE (N := 2) (cs := #[.int .i64 a0_0, .int .i64 a0_1, .int .i64 a0_2, .int .i64 a0_3, .int .i64 a0_4, .int .i64 a0_5, .int .i64 a0_6, .int .i64 a0_7]) (t := 37) ?_; intro gb500 hg w6 hbox hb; have n0_ := bA (bS hb); have n1_ := bA (hbox); have n2_ := bA ((bZ hg : w.heap.size ≤ gb500)); have n3_ := bA ((bZ hg : w.heap.size ≤ gb500)); clear HB; have HB := n0_; have BK500 := n1_; have GW500 := n2_; have GE500 := n3_; clear n0_ n1_ n2_ n3_; clear hb hbox hg; have hcz7_0 : w6.cell? ⟨gb500, 0, none⟩ = some (.int .i64 a0_0) := (blk_cell BK500.out 0).trans rfl; have hcz7_1 : w6.cell? ⟨gb500, 1, none⟩ = some (.int .i64 a0_1) := (blk_cell BK500.out 1).trans rfl; have hcz7_2 : w6.cell? ⟨gb500, 2, none⟩ = some (.int .i64 a0_2) := (blk_cell BK500.out 2).trans rfl; have hcz7_3 : w6.cell? ⟨gb500, 3, none⟩ = some (.int .i64 a0_3) := (blk_cell BK500.out 3).trans rfl; have hcz7_4 : w6.cell? ⟨gb500, 4, none⟩ = some (.int .i64 a0_4) := (blk_cell BK500.out 4).trans rfl; have hcz7_5 : w6.cell? ⟨gb500, 5, none⟩ = some (.int .i64 a0_5) := (blk_cell BK500.out 5).trans rfl; have hcz7_6 : w6.cell? ⟨gb500, 6, none⟩ = some (.int .i64 a0_6) := (blk_cell BK500.out 6).trans rfl; have hcz7_7 : w6.cell? ⟨gb500, 7, none⟩ = some (.int .i64 a0_7) := (blk_cell BK500.out 7).trans rfl; have hfz7_0 := blk_frozen BK500.out 0; have hfz7_1 := blk_frozen BK500.out 1; have hfz7_2 := blk_frozen BK500.out 2; have hfz7_3 := blk_frozen BK500.out 3; have hfz7_4 := blk_frozen BK500.out 4; have hfz7_5 := blk_frozen BK500.out 5; have hfz7_6 := blk_frozen BK500.out 6; have hfz7_7 := blk_frozen BK500.out 7) | ((first | ((with_reducible refine gate_callee (f := 24) rfl ?_); refine bC (some 12) Try.func24 #[.agg #[.int .i64 a0_0, .int .i64 a0_1, .int .i64 a0_2, .int .i64 a0_3, .int .i64 a0_4, .int .i64 a0_5, .int .i64 a0_6, .int .i64 a0_7]] ?_) | go_at_call 24); (with_reducible refine (apogeelaw18_Held.calls a0_0 a0_1 a0_2 a0_3 a0_4 a0_5 a0_6 a0_7 t501 t502 t503 t504 t505 t506 t507 t508 _ A3.out).mono ?_); rintro e w8 ⟨rfl, hb⟩; (first | refine ⟨_, rfl, ?_⟩ | skip); have n0_ := bA (bB BK500 hb); have n1_ := bA (bS hb); clear BK500; clear HB; have BK500 := n0_; have HB := n1_; clear n0_ n1_; (try clear hb); (try clear hb2); (try clear hk); (try clear hi); have hcz9_0 : w8.cell? ⟨gb500, 0, none⟩ = some (.int .i64 a0_0) := (blk_cell BK500.out 0).trans rfl; have hcz9_1 : w8.cell? ⟨gb500, 1, none⟩ = some (.int .i64 a0_1) := (blk_cell BK500.out 1).trans rfl; have hcz9_2 : w8.cell? ⟨gb500, 2, none⟩ = some (.int .i64 a0_2) := (blk_cell BK500.out 2).trans rfl; have hcz9_3 : w8.cell? ⟨gb500, 3, none⟩ = some (.int .i64 a0_3) := (blk_cell BK500.out 3).trans rfl; have hcz9_4 : w8.cell? ⟨gb500, 4, none⟩ = some (.int .i64 a0_4) := (blk_cell BK500.out 4).trans rfl; have hcz9_5 : w8.cell? ⟨gb500, 5, none⟩ = some (.int .i64 a0_5) := (blk_cell BK500.out 5).trans rfl; have hcz9_6 : w8.cell? ⟨gb500, 6, none⟩ = some (.int .i64 a0_6) := (blk_cell BK500.out 6).trans rfl; have hcz9_7 : w8.cell? ⟨gb500, 7, none⟩ = some (.int .i64 a0_7) := (blk_cell BK500.out 7).trans rfl; have hfz9_0 := blk_frozen BK500.out 0; have hfz9_1 := blk_frozen BK500.out 1; have hfz9_2 := blk_frozen BK500.out 2; have hfz9_3 := blk_frozen BK500.out 3; have hfz9_4 := blk_frozen BK500.out 4; have hfz9_5 := blk_frozen BK500.out 5; have hfz9_6 := blk_frozen BK500.out 6; have hfz9_7 := blk_frozen BK500.out 7) | ((first | ((with_reducible refine gate_callee (f := 25) rfl ?_); refine bC (some 23) Try.func25 #[.agg #[.int .i64 t501, .int .i64 t502, .int .i64 t503, .int .i64 t504, .int .i64 t505, .int .i64 t506, .int .i64 t507, .int .i64 t508], .int .i64 (wrap64 ((wrap64 (1 + (wrap64 (Int.tmod (IntKind.u64.wrap (a1)) 50)))) * 2)), .int .i64 0] ?_) | go_at_call 25); (with_reducible refine (impact_Box.calls k t501 t502 t503 t504 t505 t506 t507 t508 (wrap64 ((wrap64 (1 + (wrap64 (Int.tmod (IntKind.u64.wrap (a1)) 50)))) * 2)) 0 t509 t510 t511 t512 t513 _ A4.out).mono ?_); rintro e w10 ⟨rfl, hb⟩; (first | refine ⟨_, rfl, ?_⟩ | skip); have n0_ := bA (blk_below (g := gb500) (o := .cells #[.int .i64 t501, .int .i64 t502, .int .i64 t503, .int .i64 t504, .int .i64 t505, .int .i64 t506, .int .i64 t507, .int .i64 t508] 37 (0, 0)) (by (with_reducible repeat (first | refine blk_drewN ?_ _ | refine blk_drew ?_ | refine blk_alloc ?_ _)); refine blk_put (cs := #[.int .i64 t501, .int .i64 t502, .int .i64 t503, .int .i64 t504, .int .i64 t505, .int .i64 t506, .int .i64 t507, .int .i64 a0_7]) ?_ 7 _ rfl; (with_reducible repeat (first | refine blk_drewN ?_ _ | refine blk_drew ?_ | refine blk_alloc ?_ _)); refine blk_put (cs := #[.int .i64 t501, .int .i64 t502, .int .i64 t503, .int .i64 t504, .int .i64 t505, .int .i64 t506, .int .i64 a0_6, .int .i64 a0_7]) ?_ 6 _ rfl; (with_reducible repeat (first | refine blk_drewN ?_ _ | refine blk_drew ?_ | refine blk_alloc ?_ _)); refine blk_put (cs := #[.int .i64 t501, .int .i64 t502, .int .i64 t503, .int .i64 t504, .int .i64 t505, .int .i64 a0_5, .int .i64 a0_6, .int .i64 a0_7]) ?_ 5 _ rfl; (with_reducible repeat (first | refine blk_drewN ?_ _ | refine blk_drew ?_ | refine blk_alloc ?_ _)); refine blk_put (cs := #[.int .i64 t501, .int .i64 t502, .int .i64 t503, .int .i64 t504, .int .i64 a0_4, .int .i64 a0_5, .int .i64 a0_6, .int .i64 a0_7]) ?_ 4 _ rfl; (with_reducible repeat (first | refine blk_drewN ?_ _ | refine blk_drew ?_ | refine blk_alloc ?_ _)); refine blk_put (cs := #[.int .i64 t501, .int .i64 t502, .int .i64 t503, .int .i64 a0_3, .int .i64 a0_4, .int .i64 a0_5, .int .i64 a0_6, .int .i64 a0_7]) ?_ 3 _ rfl; (with_reducible repeat (first | refine blk_drewN ?_ _ | refine blk_drew ?_ | refine blk_alloc ?_ _)); refine blk_put (cs := #[.int .i64 t501, .int .i64 t502, .int .i64 a0_2, .int .i64 a0_3, .int .i64 a0_4, .int .i64 a0_5, .int .i64 a0_6, .int .i64 a0_7]) ?_ 2 _ rfl; (with_reducible repeat (first | refine blk_drewN ?_ _ | refine blk_drew ?_ | refine blk_alloc ?_ _)); refine blk_put (cs := #[.int .i64 t501, .int .i64 a0_1, .int .i64 a0_2, .int .i64 a0_3, .int .i64 a0_4, .int .i64 a0_5, .int .i64 a0_6, .int .i64 a0_7]) ?_ 1 _ rfl; (with_reducible repeat (first | refine blk_drewN ?_ _ | refine blk_drew ?_ | refine blk_alloc ?_ _)); refine blk_put (cs := #[.int .i64 a0_0, .int .i64 a0_1, .int .i64 a0_2, .int .i64 a0_3, .int .i64 a0_4, .int .i64 a0_5, .int .i64 a0_6, .int .i64 a0_7]) ?_ 0 _ rfl; (with_reducible repeat (first | refine blk_drewN ?_ _ | refine blk_drew ?_ | refine blk_alloc ?_ _)); exact BK500.out) hb); have n1_ := bA (bS hb); clear BK500; clear HB; have BK500 := n0_; have HB := n1_; clear n0_ n1_; (try clear hb); (try clear hb2); (try clear hk); (try clear hi)) | ((with_reducible refine gate_dst (N := 5) rfl ?_); refine bE (N := 5) (cs := #[.int .i64 0, .int .i64 0, .int .i64 0, .int .i64 0]) (t := 42) ?_; intro gb514 hg w11 hbox hb; have n0_ := bA (bB BK500 hb); have n1_ := bA (bS hb); have n2_ := bA (hbox); have n3_ := bA ((bZ hg : w.heap.size ≤ gb514)); have n4_ := bA ((bZ hg : w.heap.size ≤ gb514)); have n5_ := bA ((bL BK500 hg : gb500 ≠ gb514)); have n6_ := bA ((bG BK500 hg : gb514 ≠ gb500)); clear BK500; clear HB; have BK500 := n0_; have HB := n1_; have BK514 := n2_; have GW514 := n3_; have GE514 := n4_; have NB500_514 := n5_; have NB514_500 := n6_; clear n0_ n1_ n2_ n3_ n4_ n5_ n6_; clear hb hbox hg; have hnb12 := NB514_500.out; have hnc12 := NB500_514.out; have hcz13_0 : w11.cell? ⟨gb514, 0, none⟩ = some (.int .i64 0) := (blk_cell BK514.out 0).trans rfl; have hcz13_1 : w11.cell? ⟨gb514, 1, none⟩ = some (.int .i64 0) := (blk_cell BK514.out 1).trans rfl; have hcz13_2 : w11.cell? ⟨gb514, 2, none⟩ = some (.int .i64 0) := (blk_cell BK514.out 2).trans rfl; have hcz13_3 : w11.cell? ⟨gb514, 3, none⟩ = some (.int .i64 0) := (blk_cell BK514.out 3).trans rfl; have hfz13_0 := blk_frozen BK514.out 0; have hfz13_1 := blk_frozen BK514.out 1; have hfz13_2 := blk_frozen BK514.out 2; have hfz13_3 := blk_frozen BK514.out 3; have hcz14_0 : w11.cell? ⟨gb500, 0, none⟩ = some (.int .i64 t501) := (blk_cell BK500.out 0).trans rfl; have hcz14_1 : w11.cell? ⟨gb500, 1, none⟩ = some (.int .i64 t502) := (blk_cell BK500.out 1).trans rfl; have hcz14_2 : w11.cell? ⟨gb500, 2, none⟩ = some (.int .i64 t503) := (blk_cell BK500.out 2).trans rfl; have hcz14_3 : w11.cell? ⟨gb500, 3, none⟩ = some (.int .i64 t504) := (blk_cell BK500.out 3).trans rfl; have hcz14_4 : w11.cell? ⟨gb500, 4, none⟩ = some (.int .i64 t505) := (blk_cell BK500.out 4).trans rfl; have hcz14_5 : w11.cell? ⟨gb500, 5, none⟩ = some (.int .i64 t506) := (blk_cell BK500.out 5).trans rfl; have hcz14_6 : w11.cell? ⟨gb500, 6, none⟩ = some (.int .i64 t507) := (blk_cell BK500.out 6).trans rfl; have hcz14_7 : w11.cell? ⟨gb500, 7, none⟩ = some (.int .i64 t508) := (blk_cell BK500.out 7).trans rfl; have hfz14_0 := blk_frozen BK500.out 0; have hfz14_1 := blk_frozen BK500.out 1; have hfz14_2 := blk_frozen BK500.out 2; have hfz14_3 := blk_frozen BK500.out 3; have hfz14_4 := blk_frozen BK500.out 4; have hfz14_5 := blk_frozen BK500.out 5; have hfz14_6 := blk_frozen BK500.out 6; have hfz14_7 := blk_frozen BK500.out 7) | ((with_reducible refine gate_dst (N := 7) rfl ?_); refine bE (N := 7) (cs := #[.int .i64 0, .int .i64 0, .int .i64 0, .int .i64 0, .int .i64 0, .int .i64 0, .int .i64 0, .int .i64 0]) (t := 37) ?_; intro gb515 hg w15 hbox hb; have n0_ := bA (blk_below (g := gb500) (o := .cells #[.int .i64 t501, .int .i64 t502, .int .i64 t503, .int .i64 t504, .int .i64 t505, .int .i64 t506, .int .i64 t507, .int .i64 t508] 37 (0, 0)) (by (with_reducible repeat (first | refine blk_drewN ?_ _ | refine blk_drew ?_ | refine blk_alloc ?_ _)); refine blk_far ?_ NB500_514.out _; (with_reducible repeat (first | refine blk_drewN ?_ _ | refine blk_drew ?_ | refine blk_alloc ?_ _)); refine blk_far ?_ NB500_514.out _; (with_reducible repeat (first | refine blk_drewN ?_ _ | refine blk_drew ?_ | refine blk_alloc ?_ _)); refine blk_far ?_ NB500_514.out _; (with_reducible repeat (first | refine blk_drewN ?_ _ | refine blk_drew ?_ | refine blk_alloc ?_ _)); refine blk_far ?_ NB500_514.out _; (with_reducible repeat (first | refine blk_drewN ?_ _ | refine blk_drew ?_ | refine blk_alloc ?_ _)); exact BK500.out) hb); have n1_ := bA (blk_below (g := gb514) (o := .cells #[.int .i64 t509, .int .i64 t510, .int .i64 t511, .int .i64 t512] 42 (0, 0)) (by (with_reducible repeat (first | refine blk_drewN ?_ _ | refine blk_drew ?_ | refine blk_alloc ?_ _)); refine blk_put (cs := #[.int .i64 t509, .int .i64 t510, .int .i64 t511, .int .i64 0]) ?_ 3 _ rfl; (with_reducible repeat (first | refine blk_drewN ?_ _ | refine blk_drew ?_ | refine blk_alloc ?_ _)); refine blk_put (cs := #[.int .i64 t509, .int .i64 t510, .int .i64 0, .int .i64 0]) ?_ 2 _ rfl; (with_reducible repeat (first | refine blk_drewN ?_ _ | refine blk_drew ?_ | refine blk_alloc ?_ _)); refine blk_put (cs := #[.int .i64 t509, .int .i64 0, .int .i64 0, .int .i64 0]) ?_ 1 _ rfl; (with_reducible repeat (first | refine blk_drewN ?_ _ | refine blk_drew ?_ | refine blk_alloc ?_ _)); refine blk_put (cs := #[.int .i64 0, .int .i64 0, .int .i64 0, .int .i64 0]) ?_ 0 _ rfl; (with_reducible repeat (first | refine blk_drewN ?_ _ | refine blk_drew ?_ | refine blk_alloc ?_ _)); exact BK514.out) hb); have n2_ := bA (bS hb); have n3_ := bA (hbox); have n4_ := bA ((bZ hg : w.heap.size ≤ gb515)); have n5_ := bA ((bZ hg : w.heap.size ≤ gb515)); have n6_ := bA ((by rw [hg]; exact Nat.ne_of_lt (blk_lt (g := gb500) (o := .cells #[.int .i64 t501, .int .i64 t502, .int .i64 t503, .int .i64 t504, .int .i64 t505, .int .i64 t506, .int .i64 t507, .int .i64 t508] 37 (0, 0)) (by (with_reducible repeat (first | refine blk_drewN ?_ _ | refine blk_drew ?_ | refine blk_alloc ?_ _)); refine blk_far ?_ NB500_514.out _; (with_reducible repeat (first | refine blk_drewN ?_ _ | refine blk_drew ?_ | refine blk_alloc ?_ _)); refine blk_far ?_ NB500_514.out _; (with_reducible repeat (first | refine blk_drewN ?_ _ | refine blk_drew ?_ | refine blk_alloc ?_ _)); refine blk_far ?_ NB500_514.out _; (with_reducible repeat (first | refine blk_drewN ?_ _ | refine blk_drew ?_ | refine blk_alloc ?_ _)); refine blk_far ?_ NB500_514.out _; (with_reducible repeat (first | refine blk_drewN ?_ _ | refine blk_drew ?_ | refine blk_alloc ?_ _)); exact BK500.out)) : gb500 ≠ gb515)); have n7_ := bA ((by rw [hg]; exact Nat.ne_of_gt (blk_lt (g := gb500) (o := .cells #[.int .i64 t501, .int .i64 t502, .int .i64 t503, .int .i64 t504, .int .i64 t505, .int .i64 t506, .int .i64 t507, .int .i64 t508] 37 (0, 0)) (by (with_reducible repeat (first | refine blk_drewN ?_ _ | refine blk_drew ?_ | refine blk_alloc ?_ _)); refine blk_far ?_ NB500_514.out _; (with_reducible repeat (first | refine blk_drewN ?_ _ | refine blk_drew ?_ | refine blk_alloc ?_ _)); refine blk_far ?_ NB500_514.out _; (with_reducible repeat (first | refine blk_drewN ?_ _ | refine blk_drew ?_ | refine blk_alloc ?_ _)); refine blk_far ?_ NB500_514.out _; (with_reducible repeat (first | refine blk_drewN ?_ _ | refine blk_drew ?_ | refine blk_alloc ?_ _)); refine blk_far ?_ NB500_514.out _; (with_reducible repeat (first | refine blk_drewN ?_ _ | refine blk_drew ?_ | refine blk_alloc ?_ _)); exact BK500.out)) : gb515 ≠ gb500)); have n8_ := bA ((by rw [hg]; exact Nat.ne_of_lt (blk_lt (g := gb514) (o := .cells #[.int .i64 t509, .int .i64 t510, .int .i64 t511, .int .i64 t512] 42 (0, 0)) (by (with_reducible repeat (first | refine blk_drewN ?_ _ | refine blk_drew ?_ | refine blk_alloc ?_ _)); refine blk_put (cs := #[.int .i64 t509, .int .i64 t510, .int .i64 t511, .int .i64 0]) ?_ 3 _ rfl; (with_reducible repeat (first | refine blk_drewN ?_ _ | refine blk_drew ?_ | refine blk_alloc ?_ _)); refine blk_put (cs := #[.int .i64 t509, .int .i64 t510, .int .i64 0, .int .i64 0]) ?_ 2 _ rfl; (with_reducible repeat (first | refine blk_drewN ?_ _ | refine blk_drew ?_ | refine blk_alloc ?_ _)); refine blk_put (cs := #[.int .i64 t509, .int .i64 0, .int .i64 0, .int .i64 0]) ?_ 1 _ rfl; (with_reducible repeat (first | refine blk_drewN ?_ _ | refine blk_drew ?_ | refine blk_alloc ?_ _)); refine blk_put (cs := #[.int .i64 0, .int .i64 0, .int .i64 0, .int .i64 0]) ?_ 0 _ rfl; (with_reducible repeat (first | refine blk_drewN ?_ _ | refine blk_drew ?_ | refine blk_alloc ?_ _)); exact BK514.out)) : gb514 ≠ gb515)); have n9_ := bA ((by rw [hg]; exact Nat.ne_of_gt (blk_lt (g := gb514) (o := .cells #[.int .i64 t509, .int .i64 t510, .int .i64 t511, .int .i64 t512] 42 (0, 0)) (by (with_reducible repeat (first | refine blk_drewN ?_ _ | refine blk_drew ?_ | refine blk_alloc ?_ _)); refine blk_put (cs := #[.int .i64 t509, .int .i64 t510, .int .i64 t511, .int .i64 0]) ?_ 3 _ rfl; (with_reducible repeat (first | refine blk_drewN ?_ _ | refine blk_drew ?_ | refine blk_alloc ?_ _)); refine blk_put (cs := #[.int .i64 t509, .int .i64 t510, .int .i64 0, .int .i64 0]) ?_ 2 _ rfl; (with_reducible repeat (first | refine blk_drewN ?_ _ | refine blk_drew ?_ | refine blk_alloc ?_ _)); refine blk_put (cs := #[.int .i64 t509, .int .i64 0, .int .i64 0, .int .i64 0]) ?_ 1 _ rfl; (with_reducible repeat (first | refine blk_drewN ?_ _ | refine blk_drew ?_ | refine blk_alloc ?_ _)); refine blk_put (cs := #[.int .i64 0, .int .i64 0, .int .i64 0, .int .i64 0]) ?_ 0 _ rfl; (with_reducible repeat (first | refine blk_drewN ?_ _ | refine blk_drew ?_ | refine blk_alloc ?_ _)); exact BK514.out)) : gb515 ≠ gb514)); clear BK500; clear BK514; clear HB; have BK500 := n0_; have BK514 := n1_; have HB := n2_; have BK515 := n3_; have GW515 := n4_; have GE515 := n5_; have NB500_515 := n6_; have NB515_500 := n7_; have NB514_515 := n8_; have NB515_514 := n9_; clear n0_ n1_ n2_ n3_ n4_ n5_ n6_ n7_ n8_ n9_; clear hb hbox hg; have hnb16 := NB515_500.out; have hnc16 := NB500_515.out; have hnb17 := NB515_514.out; have hnc17 := NB514_515.out; have hcz18_0 : w15.cell? ⟨gb515, 0, none⟩ = some (.int .i64 0) := (blk_cell BK515.out 0).trans rfl; have hcz18_1 : w15.cell? ⟨gb515, 1, none⟩ = some (.int .i64 0) := (blk_cell BK515.out 1).trans rfl; have hcz18_2 : w15.cell? ⟨gb515, 2, none⟩ = some (.int .i64 0) := (blk_cell BK515.out 2).trans rfl; have hcz18_3 : w15.cell? ⟨gb515, 3, none⟩ = some (.int .i64 0) := (blk_cell BK515.out 3).trans rfl; have hcz18_4 : w15.cell? ⟨gb515, 4, none⟩ = some (.int .i64 0) := (blk_cell BK515.out 4).trans rfl; have hcz18_5 : w15.cell? ⟨gb515, 5, none⟩ = some (.int .i64 0) := (blk_cell BK515.out 5).trans rfl; have hcz18_6 : w15.cell? ⟨gb515, 6, none⟩ = some (.int .i64 0) := (blk_cell BK515.out 6).trans rfl; have hcz18_7 : w15.cell? ⟨gb515, 7, none⟩ = some (.int .i64 0) := (blk_cell BK515.out 7).trans rfl; have hfz18_0 := blk_frozen BK515.out 0; have hfz18_1 := blk_frozen BK515.out 1; have hfz18_2 := blk_frozen BK515.out 2; have hfz18_3 := blk_frozen BK515.out 3; have hfz18_4 := blk_frozen BK515.out 4; have hfz18_5 := blk_frozen BK515.out 5; have hfz18_6 := blk_frozen BK515.out 6; have hfz18_7 := blk_frozen BK515.out 7))
 have n0_ : Aside0 (((((((((w15.setCell ⟨gb515, 0, none⟩ (.int .i64 t501)).setCell ⟨gb515, 1, none⟩ (.int .i64 t502)).setCell ⟨gb515, 2, none⟩ (.int .i64 t503)).setCell ⟨gb515, 3, none⟩ (.int .i64 t504)).setCell ⟨gb515, 4, none⟩ (.int .i64 t505)).setCell ⟨gb515, 5, none⟩ (.int .i64 t506)).setCell ⟨gb515, 6, none⟩ (.int .i64 t507)).setCell ⟨gb515, 7, none⟩ (.int .i64 t508)).heap[gb500]? = some (.cells #[.int .i64 t501, .int .i64 t502, .int .i64 t503, .int .i64 t504, .int .i64 t505, .int .i64 t506, .int .i64 t507, .int .i64 t508] 37 (0, 0))) := ⟨by (with_reducible repeat (first | refine blk_drewN ?_ _ | refine blk_drew ?_ | refine blk_alloc ?_ _)); refine blk_far ?_ NB500_515.out _; (with_reducible repeat (first | refine blk_drewN ?_ _ | refine blk_drew ?_ | refine blk_alloc ?_ _)); refine blk_far ?_ NB500_515.out _; (with_reducible repeat (first | refine blk_drewN ?_ _ | refine blk_drew ?_ | refine blk_alloc ?_ _)); refine blk_far ?_ NB500_515.out _; (with_reducible repeat (first | refine blk_drewN ?_ _ | refine blk_drew ?_ | refine blk_alloc ?_ _)); refine blk_far ?_ NB500_515.out _; (with_reducible repeat (first | refine blk_drewN ?_ _ | refine blk_drew ?_ | refine blk_alloc ?_ _)); refine blk_far ?_ NB500_515.out _; (with_reducible repeat (first | refine blk_drewN ?_ _ | refine blk_drew ?_ | refine blk_alloc ?_ _)); refine blk_far ?_ NB500_515.out _; (with_reducible repeat (first | refine blk_drewN ?_ _ | refine blk_drew ?_ | refine blk_alloc ?_ _)); refine blk_far ?_ NB500_515.out _; (with_reducible repeat (first | refine blk_drewN ?_ _ | refine blk_drew ?_ | refine blk_alloc ?_ _)); refine blk_far ?_ NB500_515.out _; (with_reducible repeat (first | refine blk_drewN ?_ _ | refine blk_drew ?_ | refine blk_alloc ?_ _)); exact BK500.out⟩
 have n1_ : Aside0 (((((((((w15.setCell ⟨gb515, 0, none⟩ (.int .i64 t501)).setCell ⟨gb515, 1, none⟩ (.int .i64 t502)).setCell ⟨gb515, 2, none⟩ (.int .i64 t503)).setCell ⟨gb515, 3, none⟩ (.int .i64 t504)).setCell ⟨gb515, 4, none⟩ (.int .i64 t505)).setCell ⟨gb515, 5, none⟩ (.int .i64 t506)).setCell ⟨gb515, 6, none⟩ (.int .i64 t507)).setCell ⟨gb515, 7, none⟩ (.int .i64 t508)).heap[gb514]? = some (.cells #[.int .i64 t509, .int .i64 t510, .int .i64 t511, .int .i64 t512] 42 (0, 0))) := ⟨by (with_reducible repeat (first | refine blk_drewN ?_ _ | refine blk_drew ?_ | refine blk_alloc ?_ _)); refine blk_far ?_ NB514_515.out _; (with_reducible repeat (first | refine blk_drewN ?_ _ | refine blk_drew ?_ | refine blk_alloc ?_ _)); refine blk_far ?_ NB514_515.out _; (with_reducible repeat (first | refine blk_drewN ?_ _ | refine blk_drew ?_ | refine blk_alloc ?_ _)); refine blk_far ?_ NB514_515.out _; (with_reducible repeat (first | refine blk_drewN ?_ _ | refine blk_drew ?_ | refine blk_alloc ?_ _)); refine blk_far ?_ NB514_515.out _; (with_reducible repeat (first | refine blk_drewN ?_ _ | refine blk_drew ?_ | refine blk_alloc ?_ _)); refine blk_far ?_ NB514_515.out _; (with_reducible repeat (first | refine blk_drewN ?_ _ | refine blk_drew ?_ | refine blk_alloc ?_ _)); refine blk_far ?_ NB514_515.out _; (with_reducible repeat (first | refine blk_drewN ?_ _ | refine blk_drew ?_ | refine blk_alloc ?_ _)); refine blk_far ?_ NB514_515.out _; (with_reducible repeat (first | refine blk_drewN ?_ _ | refine blk_drew ?_ | refine blk_alloc ?_ _)); refine blk_far ?_ NB514_515.out _; (with_reducible repeat (first | refine blk_drewN ?_ _ | refine blk_drew ?_ | refine blk_alloc ?_ _)); exact BK514.out⟩
 have n2_ : Aside0 (((((((((w15.setCell ⟨gb515, 0, none⟩ (.int .i64 t501)).setCell ⟨gb515, 1, none⟩ (.int .i64 t502)).setCell ⟨gb515, 2, none⟩ (.int .i64 t503)).setCell ⟨gb515, 3, none⟩ (.int .i64 t504)).setCell ⟨gb515, 4, none⟩ (.int .i64 t505)).setCell ⟨gb515, 5, none⟩ (.int .i64 t506)).setCell ⟨gb515, 6, none⟩ (.int .i64 t507)).setCell ⟨gb515, 7, none⟩ (.int .i64 t508)).heap[gb515]? = some (.cells #[.int .i64 t501, .int .i64 t502, .int .i64 t503, .int .i64 t504, .int .i64 t505, .int .i64 t506, .int .i64 t507, .int .i64 t508] 37 (0, 0))) := ⟨by (with_reducible repeat (first | refine blk_drewN ?_ _ | refine blk_drew ?_ | refine blk_alloc ?_ _)); refine blk_put (cs := #[.int .i64 t501, .int .i64 t502, .int .i64 t503, .int .i64 t504, .int .i64 t505, .int .i64 t506, .int .i64 t507, .int .i64 0]) ?_ 7 _ rfl; (with_reducible repeat (first | refine blk_drewN ?_ _ | refine blk_drew ?_ | refine blk_alloc ?_ _)); refine blk_put (cs := #[.int .i64 t501, .int .i64 t502, .int .i64 t503, .int .i64 t504, .int .i64 t505, .int .i64 t506, .int .i64 0, .int .i64 0]) ?_ 6 _ rfl; (with_reducible repeat (first | refine blk_drewN ?_ _ | refine blk_drew ?_ | refine blk_alloc ?_ _)); refine blk_put (cs := #[.int .i64 t501, .int .i64 t502, .int .i64 t503, .int .i64 t504, .int .i64 t505, .int .i64 0, .int .i64 0, .int .i64 0]) ?_ 5 _ rfl; (with_reducible repeat (first | refine blk_drewN ?_ _ | refine blk_drew ?_ | refine blk_alloc ?_ _)); refine blk_put (cs := #[.int .i64 t501, .int .i64 t502, .int .i64 t503, .int .i64 t504, .int .i64 0, .int .i64 0, .int .i64 0, .int .i64 0]) ?_ 4 _ rfl; (with_reducible repeat (first | refine blk_drewN ?_ _ | refine blk_drew ?_ | refine blk_alloc ?_ _)); refine blk_put (cs := #[.int .i64 t501, .int .i64 t502, .int .i64 t503, .int .i64 0, .int .i64 0, .int .i64 0, .int .i64 0, .int .i64 0]) ?_ 3 _ rfl; (with_reducible repeat (first | refine blk_drewN ?_ _ | refine blk_drew ?_ | refine blk_alloc ?_ _)); refine blk_put (cs := #[.int .i64 t501, .int .i64 t502, .int .i64 0, .int .i64 0, .int .i64 0, .int .i64 0, .int .i64 0, .int .i64 0]) ?_ 2 _ rfl; (with_reducible repeat (first | refine blk_drewN ?_ _ | refine blk_drew ?_ | refine blk_alloc ?_ _)); refine blk_put (cs := #[.int .i64 t501, .int .i64 0, .int .i64 0, .int .i64 0, .int .i64 0, .int .i64 0, .int .i64 0, .int .i64 0]) ?_ 1 _ rfl; (with_reducible repeat (first | refine blk_drewN ?_ _ | refine blk_drew ?_ | refine blk_alloc ?_ _)); refine blk_put (cs := #[.int .i64 0, .int .i64 0, .int .i64 0, .int .i64 0, .int .i64 0, .int .i64 0, .int .i64 0, .int .i64 0]) ?_ 0 _ rfl; (with_reducible repeat (first | refine blk_drewN ?_ _ | refine blk_drew ?_ | refine blk_alloc ?_ _)); exact BK515.out⟩
 have n3_ : Aside0 (Below w.heap.size w ((((((((w15.setCell ⟨gb515, 0, none⟩ (.int .i64 t501)).setCell ⟨gb515, 1, none⟩ (.int .i64 t502)).setCell ⟨gb515, 2, none⟩ (.int .i64 t503)).setCell ⟨gb515, 3, none⟩ (.int .i64 t504)).setCell ⟨gb515, 4, none⟩ (.int .i64 t505)).setCell ⟨gb515, 5, none⟩ (.int .i64 t506)).setCell ⟨gb515, 6, none⟩ (.int .i64 t507)).setCell ⟨gb515, 7, none⟩ (.int .i64 t508))) := ⟨bX⟩
 (try clear BK500)
 (try clear BK514)
 (try clear BK515)
 (try clear HB)
 generalize ((((((((w15.setCell ⟨gb515, 0, none⟩ (.int .i64 t501)).setCell ⟨gb515, 1, none⟩ (.int .i64 t502)).setCell ⟨gb515, 2, none⟩ (.int .i64 t503)).setCell ⟨gb515, 3, none⟩ (.int .i64 t504)).setCell ⟨gb515, 4, none⟩ (.int .i64 t505)).setCell ⟨gb515, 5, none⟩ (.int .i64 t506)).setCell ⟨gb515, 6, none⟩ (.int .i64 t507)).setCell ⟨gb515, 7, none⟩ (.int .i64 t508)) = w19 at n0_ n1_ n2_ n3_ ⊢
 have BK500 := n0_
 have BK514 := n1_
 have BK515 := n2_
 have HB := n3_
 clear n0_ n1_ n2_ n3_
 have n0_ := bA (blk_drew BK500.out)
 have n1_ := bA (blk_drew BK514.out)
 have n2_ := bA (blk_drew BK515.out)
 have n3_ := bA (below_drew1 HB.out)
 clear BK500
 clear BK514
 clear BK515
 clear HB
 have BK500 := n0_
 have BK514 := n1_
 have BK515 := n2_
 have HB := n3_
 clear n0_ n1_ n2_ n3_
 refine start_ (n := 30) (S := fun w' => w'.cell? ⟨gb500, 0, none⟩ = some (.int .i64 t501) ∧ w'.cell? ⟨gb500, 1, none⟩ = some (.int .i64 t502) ∧ w'.cell? ⟨gb500, 2, none⟩ = some (.int .i64 t503) ∧ w'.cell? ⟨gb500, 3, none⟩ = some (.int .i64 t504) ∧ w'.cell? ⟨gb500, 4, none⟩ = some (.int .i64 t505) ∧ w'.cell? ⟨gb500, 5, none⟩ = some (.int .i64 t506) ∧ w'.cell? ⟨gb500, 6, none⟩ = some (.int .i64 t507) ∧ w'.cell? ⟨gb500, 7, none⟩ = some (.int .i64 t508)) (ds := []) #[false, false, false, false, false, false, false, false, false, false, false, false, false, false, false, false, false, false, false, false, false, false, false, false, false, false, false, false, false, false] (by kernel_rfl) rfl rfl ⟨(blk_cell BK500.out 0).trans rfl, (blk_cell BK500.out 1).trans rfl, (blk_cell BK500.out 2).trans rfl, (blk_cell BK500.out 3).trans rfl, (blk_cell BK500.out 4).trans rfl, (blk_cell BK500.out 5).trans rfl, (blk_cell BK500.out 6).trans rfl, (blk_cell BK500.out 7).trans rfl⟩ (fun hHeld => ?_); refine with_tabW apogeelaw18_ImpactGoes.tab5 apogeelaw18_ImpactGoes.bits5 (fun HT_ HW_ => ?_)
 generalize w19.drew = w20 at BK500 BK514 BK515 HB hHeld ⊢
 refine pure_ (i := 0) (N := some 27) (v := ?_) (a' := ?_) #[true, false, false, false, false, false, false, false, false, false, false, false, false, false, false, false, false, false, false, false, false, false, false, false, false, false, false, false, false, false] rfl rfl (any_of HT_.out (by kernel_rfl)) (fun _ _ _ h => h) (Or.inl ⟨by rfl, ?_⟩) ?_ ?_
 rotate_left
 ·intro w'
  go_simp
  with_reducible rfl
 rotate_left
 ·simp only [Act.put, List.setIfInBounds_toArray, List.set_cons_zero, List.set_cons_succ, i64_w, i32_w]
  rfl
 refine pure_ (i := 2) (N := some 29) (v := ?_) (a' := ?_) #[true, false, true, false, false, false, false, false, false, false, false, false, false, false, false, false, false, false, false, false, false, false, false, false, false, false, false, false, false, false] rfl rfl (any_of HT_.out (by kernel_rfl)) (fun _ _ _ h => h) (Or.inl ⟨by rfl, ?_⟩) ?_ ?_
 rotate_left
 ·intro w'
  go_simp
  with_reducible rfl
 rotate_left
 ·simp only [Act.put, List.setIfInBounds_toArray, List.set_cons_zero, List.set_cons_succ, i64_w, i32_w]
  rfl
 refine pure_ (i := 5) (N := some 32) (v := ?_) (a' := ?_) #[true, false, true, false, false, true, false, false, false, false, false, false, false, false, false, false, false, false, false, false, false, false, false, false, false, false, false, false, false, false] rfl rfl (any_of HT_.out (by kernel_rfl)) (fun _ _ _ h => h) (Or.inl ⟨by rfl, ?_⟩) ?_ ?_
 rotate_left
 ·intro w'
  go_simp
  with_reducible rfl
 rotate_left
 ·simp only [Act.put, List.setIfInBounds_toArray, List.set_cons_zero, List.set_cons_succ, i64_w, i32_w]
  rfl
 refine pure_ (i := 7) (N := some 34) (v := ?_) (a' := ?_) #[true, false, true, false, false, true, false, true, false, false, false, false, false, false, false, false, false, false, false, false, false, false, false, false, false, false, false, false, false, false] rfl rfl (any_of HT_.out (by kernel_rfl)) (fun _ _ _ h => h) (Or.inl ⟨by rfl, ?_⟩) ?_ ?_
 rotate_left
 ·intro w'
  go_simp
  with_reducible rfl
 rotate_left
 ·simp only [Act.put, List.setIfInBounds_toArray, List.set_cons_zero, List.set_cons_succ, i64_w, i32_w]
  rfl
 refine pure_ (i := 10) (N := some 37) (v := ?_) (a' := ?_) #[true, false, true, false, false, true, false, true, false, false, true, false, false, false, false, false, false, false, false, false, false, false, false, false, false, false, false, false, false, false] rfl rfl (any_of HT_.out (by kernel_rfl)) (fun _ _ _ h => h) (Or.inl ⟨by rfl, ?_⟩) ?_ ?_
 rotate_left
 ·intro w'
  go_simp
  with_reducible rfl
 rotate_left
 ·simp only [Act.put, List.setIfInBounds_toArray, List.set_cons_zero, List.set_cons_succ, i64_w, i32_w]
  rfl
 refine pure_ (i := 12) (N := some 39) (v := ?_) (a' := ?_) #[true, false, true, false, false, true, false, true, false, false, true, false, true, false, false, false, false, false, false, false, false, false, false, false, false, false, false, false, false, false] rfl rfl (any_of HT_.out (by kernel_rfl)) (fun _ _ _ h => h) (Or.inl ⟨by rfl, ?_⟩) ?_ ?_
 rotate_left
 ·intro w'
  go_simp
  with_reducible rfl
 rotate_left
 ·simp only [Act.put, List.setIfInBounds_toArray, List.set_cons_zero, List.set_cons_succ, i64_w, i32_w]
  rfl
 refine pure_ (i := 15) (N := some 42) (v := ?_) (a' := ?_) #[true, false, true, false, false, true, false, true, false, false, true, false, true, false, false, true, false, false, false, false, false, false, false, false, false, false, false, false, false, false] rfl rfl (any_of HT_.out (by kernel_rfl)) (fun _ _ _ h => h) (Or.inl ⟨by rfl, ?_⟩) ?_ ?_
 rotate_left
 ·intro w'
  go_simp
  with_reducible rfl
 rotate_left
 ·simp only [Act.put, List.setIfInBounds_toArray, List.set_cons_zero, List.set_cons_succ, i64_w, i32_w]
  rfl
 refine pure_ (i := 16) (N := some 43) (v := ?_) (a' := ?_) #[true, false, true, false, false, true, false, true, false, false, true, false, true, false, false, true, true, false, false, false, false, false, false, false, false, false, false, false, false, false] rfl rfl (any_of HT_.out (by kernel_rfl)) (fun _ _ _ h => h) (Or.inl ⟨by rfl, ?_⟩) ?_ ?_
 rotate_left
 ·intro w'
  go_simp
  with_reducible rfl
 rotate_left
 ·simp only [Act.put, List.setIfInBounds_toArray, List.set_cons_zero, List.set_cons_succ, i64_w, i32_w]
  rfl
 refine pure_ (i := 18) (N := some 45) (v := ?_) (a' := ?_) #[true, false, true, false, false, true, false, true, false, false, true, false, true, false, false, true, true, false, true, false, false, false, false, false, false, false, false, false, false, false] rfl rfl (any_of HT_.out (by kernel_rfl)) (fun _ _ _ h => h) (Or.inl ⟨by rfl, ?_⟩) ?_ ?_
 rotate_left
 ·intro w'
  go_simp
  with_reducible rfl
 rotate_left
 ·simp only [Act.put, List.setIfInBounds_toArray, List.set_cons_zero, List.set_cons_succ, i64_w, i32_w]
  rfl
 refine pure_ (i := 20) (N := some 47) (v := ?_) (a' := ?_) #[true, false, true, false, false, true, false, true, false, false, true, false, true, false, false, true, true, false, true, false, true, false, false, false, false, false, false, false, false, false] rfl rfl (any_of HT_.out (by kernel_rfl)) (fun _ _ _ h => h) (Or.inl ⟨by rfl, ?_⟩) ?_ ?_
 rotate_left
 ·intro w'
  go_simp
  with_reducible rfl
 rotate_left
 ·simp only [Act.put, List.setIfInBounds_toArray, List.set_cons_zero, List.set_cons_succ, i64_w, i32_w]
  rfl
 refine take_ (i := 1) (N := some 28) (v := ?_) (a' := ?_) #[true, true, true, false, false, true, false, true, false, false, true, false, true, false, false, true, true, false, true, false, true, false, false, false, false, false, false, false, false, false] rfl rfl (take_ofW HT_.out HW_.out (by kernel_rfl)) (fun _ _ _ h => h) (Or.inl ⟨by rfl, ?_⟩) hHeld ?_ ?_
 rotate_left
 ·rintro w' ⟨s0, s1, s2, s3, s4, s5, s6, s7⟩
  go_simp
  with_reducible rfl
 rotate_left
 ·simp only [Act.put, List.setIfInBounds_toArray, List.set_cons_zero, List.set_cons_succ, i64_w, i32_w]
  rfl
 refine take_ (i := 3) (N := some 30) (v := ?_) (a' := ?_) #[true, true, true, true, false, true, false, true, false, false, true, false, true, false, false, true, true, false, true, false, true, false, false, false, false, false, false, false, false, false] rfl rfl (take_ofW HT_.out HW_.out (by kernel_rfl)) (fun _ _ _ h => h) (Or.inl ⟨by rfl, ?_⟩) hHeld ?_ ?_
 rotate_left
 ·rintro w' ⟨s0, s1, s2, s3, s4, s5, s6, s7⟩
  go_simp
  with_reducible rfl
 rotate_left
 ·simp only [Act.put, List.setIfInBounds_toArray, List.set_cons_zero, List.set_cons_succ, i64_w, i32_w]
  rfl
 refine pure_ (i := 4) (N := some 31) (v := ?_) (a' := ?_) #[true, true, true, true, true, true, false, true, false, false, true, false, true, false, false, true, true, false, true, false, true, false, false, false, false, false, false, false, false, false] rfl rfl (any_of HT_.out (by kernel_rfl)) (fun _ _ _ h => h) (Or.inl ⟨by rfl, ?_⟩) ?_ ?_
 rotate_left
 ·intro w'
  go_simp
  with_reducible rfl
 rotate_left
 ·simp only [Act.put, List.setIfInBounds_toArray, List.set_cons_zero, List.set_cons_succ, i64_w, i32_w]
  rfl
 refine pure_ (i := 22) (N := some 49) (v := ?_) (a' := ?_) #[true, true, true, true, true, true, false, true, false, false, true, false, true, false, false, true, true, false, true, false, true, false, true, false, false, false, false, false, false, false] rfl rfl (any_of HT_.out (by kernel_rfl)) (fun _ _ _ h => h) (Or.inl ⟨by rfl, ?_⟩) ?_ ?_
 rotate_left
 ·intro w'
  go_simp
  with_reducible rfl
 rotate_left
 ·simp only [Act.put, List.setIfInBounds_toArray, List.set_cons_zero, List.set_cons_succ, i64_w, i32_w]
  rfl
 refine take_ (i := 6) (N := some 33) (v := ?_) (a' := ?_) #[true, true, true, true, true, true, true, true, false, false, true, false, true, false, false, true, true, false, true, false, true, false, true, false, false, false, false, false, false, false] rfl rfl (take_ofW HT_.out HW_.out (by kernel_rfl)) (fun _ _ _ h => h) (Or.inl ⟨by rfl, ?_⟩) hHeld ?_ ?_
 rotate_left
 ·rintro w' ⟨s0, s1, s2, s3, s4, s5, s6, s7⟩
  go_simp
  with_reducible rfl
 rotate_left
 ·simp only [Act.put, List.setIfInBounds_toArray, List.set_cons_zero, List.set_cons_succ, i64_w, i32_w]
  rfl
 refine take_ (i := 8) (N := some 35) (v := ?_) (a' := ?_) #[true, true, true, true, true, true, true, true, true, false, true, false, true, false, false, true, true, false, true, false, true, false, true, false, false, false, false, false, false, false] rfl rfl (take_ofW HT_.out HW_.out (by kernel_rfl)) (fun _ _ _ h => h) (Or.inl ⟨by rfl, ?_⟩) hHeld ?_ ?_
 rotate_left
 ·rintro w' ⟨s0, s1, s2, s3, s4, s5, s6, s7⟩
  go_simp
  with_reducible rfl
 rotate_left
 ·simp only [Act.put, List.setIfInBounds_toArray, List.set_cons_zero, List.set_cons_succ, i64_w, i32_w]
  rfl
 refine pure_ (i := 9) (N := some 36) (v := ?_) (a' := ?_) #[true, true, true, true, true, true, true, true, true, true, true, false, true, false, false, true, true, false, true, false, true, false, true, false, false, false, false, false, false, false] rfl rfl (any_of HT_.out (by kernel_rfl)) (fun _ _ _ h => h) (Or.inl ⟨by rfl, ?_⟩) ?_ ?_
 rotate_left
 ·intro w'
  go_simp
  with_reducible rfl
 rotate_left
 ·simp only [Act.put, List.setIfInBounds_toArray, List.set_cons_zero, List.set_cons_succ, i64_w, i32_w]
  rfl
 refine take_ (i := 11) (N := some 38) (v := ?_) (a' := ?_) #[true, true, true, true, true, true, true, true, true, true, true, true, true, false, false, true, true, false, true, false, true, false, true, false, false, false, false, false, false, false] rfl rfl (take_ofW HT_.out HW_.out (by kernel_rfl)) (fun _ _ _ h => h) (Or.inl ⟨by rfl, ?_⟩) hHeld ?_ ?_
 rotate_left
 ·rintro w' ⟨s0, s1, s2, s3, s4, s5, s6, s7⟩
  go_simp
  with_reducible rfl
 rotate_left
 ·simp only [Act.put, List.setIfInBounds_toArray, List.set_cons_zero, List.set_cons_succ, i64_w, i32_w]
  rfl
 refine take_ (i := 13) (N := some 40) (v := ?_) (a' := ?_) #[true, true, true, true, true, true, true, true, true, true, true, true, true, true, false, true, true, false, true, false, true, false, true, false, false, false, false, false, false, false] rfl rfl (take_ofW HT_.out HW_.out (by kernel_rfl)) (fun _ _ _ h => h) (Or.inl ⟨by rfl, ?_⟩) hHeld ?_ ?_
 rotate_left
 ·rintro w' ⟨s0, s1, s2, s3, s4, s5, s6, s7⟩
  go_simp
  with_reducible rfl
 rotate_left
 ·simp only [Act.put, List.setIfInBounds_toArray, List.set_cons_zero, List.set_cons_succ, i64_w, i32_w]
  rfl
 refine pure_ (i := 14) (N := some 41) (v := ?_) (a' := ?_) #[true, true, true, true, true, true, true, true, true, true, true, true, true, true, true, true, true, false, true, false, true, false, true, false, false, false, false, false, false, false] rfl rfl (any_of HT_.out (by kernel_rfl)) (fun _ _ _ h => h) (Or.inl ⟨by rfl, ?_⟩) ?_ ?_
 rotate_left
 ·intro w'
  go_simp
  with_reducible rfl
 rotate_left
 ·simp only [Act.put, List.setIfInBounds_toArray, List.set_cons_zero, List.set_cons_succ, i64_w, i32_w]
  rfl
 refine pure_ (i := 17) (N := some 44) (v := ?_) (a' := ?_) #[true, true, true, true, true, true, true, true, true, true, true, true, true, true, true, true, true, true, true, false, true, false, true, false, false, false, false, false, false, false] rfl rfl (any_of HT_.out (by kernel_rfl)) (fun _ _ _ h => h) (Or.inl ⟨by rfl, ?_⟩) ?_ ?_
 rotate_left
 ·intro w'
  go_simp
  with_reducible rfl
 rotate_left
 ·simp only [Act.put, List.setIfInBounds_toArray, List.set_cons_zero, List.set_cons_succ, i64_w, i32_w]
  rfl
 refine take_ (i := 19) (N := some 46) (v := ?_) (a' := ?_) #[true, true, true, true, true, true, true, true, true, true, true, true, true, true, true, true, true, true, true, true, true, false, true, false, false, false, false, false, false, false] rfl rfl (take_ofW HT_.out HW_.out (by kernel_rfl)) (fun _ _ _ h => h) (Or.inl ⟨by rfl, ?_⟩) hHeld ?_ ?_
 rotate_left
 ·rintro w' ⟨s0, s1, s2, s3, s4, s5, s6, s7⟩
  go_simp
  with_reducible rfl
 rotate_left
 ·simp only [Act.put, List.setIfInBounds_toArray, List.set_cons_zero, List.set_cons_succ, i64_w, i32_w]
  rfl
 refine pure_ (i := 21) (N := some 48) (v := ?_) (a' := ?_) #[true, true, true, true, true, true, true, true, true, true, true, true, true, true, true, true, true, true, true, true, true, true, true, false, false, false, false, false, false, false] rfl rfl (any_of HT_.out (by kernel_rfl)) (fun _ _ _ h => h) (Or.inl ⟨by rfl, ?_⟩) ?_ ?_
 rotate_left
 ·intro w'
  go_simp
  with_reducible rfl
 rotate_left
 ·simp only [Act.put, List.setIfInBounds_toArray, List.set_cons_zero, List.set_cons_succ, i64_w, i32_w]
  rfl
 refine one_ (i := 23) (N := none) #[true, true, true, true, true, true, true, true, true, true, true, true, true, true, true, true, true, true, true, true, true, true, true, true, false, false, false, false, false, false] rfl rfl (one_of HT_.out (by kernel_rfl)) (by decide) (fun K hK => ?_)
 have hs21 : w20.cell? ⟨gb515, 2, none⟩ = some (.int .i64 t503) := (blk_cell BK515.out 2).trans rfl
 have hfs21 := blk_frozen BK515.out 2
 have hns21_0 := NB500_515.out
 have hns21_1 := NB514_515.out
 have hms21_0 := NB515_500.out
 have hms21_1 := NB515_514.out
 refine skip_ (w1 := ?_) (by rfl) rfl ?_ ?_
 rotate_left
 ·go_simp
  rfl
 refine hK.out _ _ ⟨((cell_far (p := ⟨gb515, _, none⟩) NB500_515.out _).trans (hHeld.1)), ((cell_far (p := ⟨gb515, _, none⟩) NB500_515.out _).trans (hHeld.2.1)), ((cell_far (p := ⟨gb515, _, none⟩) NB500_515.out _).trans (hHeld.2.2.1)), ((cell_far (p := ⟨gb515, _, none⟩) NB500_515.out _).trans (hHeld.2.2.2.1)), ((cell_far (p := ⟨gb515, _, none⟩) NB500_515.out _).trans (hHeld.2.2.2.2.1)), ((cell_far (p := ⟨gb515, _, none⟩) NB500_515.out _).trans (hHeld.2.2.2.2.2.1)), ((cell_far (p := ⟨gb515, _, none⟩) NB500_515.out _).trans (hHeld.2.2.2.2.2.2.1)), ((cell_far (p := ⟨gb515, _, none⟩) NB500_515.out _).trans (hHeld.2.2.2.2.2.2.2))⟩ (fun hHeld => ?_)
 clear hK K
 refine pure_ (i := 24) (N := some 50) (v := ?_) (a' := ?_) #[true, true, true, true, true, true, true, true, true, true, true, true, true, true, true, true, true, true, true, true, true, true, true, true, true, false, false, false, false, false] rfl rfl (any_of HT_.out (by kernel_rfl)) (fun _ _ _ h => h) (Or.inl ⟨by rfl, ?_⟩) ?_ ?_
 rotate_left
 ·intro w'
  go_simp
  with_reducible rfl
 rotate_left
 ·simp only [Act.put, List.setIfInBounds_toArray, List.set_cons_zero, List.set_cons_succ, i64_w, i32_w]
  rfl
 refine one_ (i := 25) (N := none) #[true, true, true, true, true, true, true, true, true, true, true, true, true, true, true, true, true, true, true, true, true, true, true, true, true, true, false, false, false, false] rfl rfl (one_of HT_.out (by kernel_rfl)) (by decide) (fun K hK => ?_)
 have hs22 : w20.cell? ⟨gb515, 3, none⟩ = some (.int .i64 t504) := (blk_cell BK515.out 3).trans rfl
 have hfs22 := blk_frozen BK515.out 3
 have hns22_0 := NB500_515.out
 have hns22_1 := NB514_515.out
 have hms22_0 := NB515_500.out
 have hms22_1 := NB515_514.out
 refine skip_ (w1 := ?_) (by rfl) rfl ?_ ?_
 rotate_left
 ·go_simp
  rfl
 refine hK.out _ _ ⟨((cell_far (p := ⟨gb515, _, none⟩) NB500_515.out _).trans (hHeld.1)), ((cell_far (p := ⟨gb515, _, none⟩) NB500_515.out _).trans (hHeld.2.1)), ((cell_far (p := ⟨gb515, _, none⟩) NB500_515.out _).trans (hHeld.2.2.1)), ((cell_far (p := ⟨gb515, _, none⟩) NB500_515.out _).trans (hHeld.2.2.2.1)), ((cell_far (p := ⟨gb515, _, none⟩) NB500_515.out _).trans (hHeld.2.2.2.2.1)), ((cell_far (p := ⟨gb515, _, none⟩) NB500_515.out _).trans (hHeld.2.2.2.2.2.1)), ((cell_far (p := ⟨gb515, _, none⟩) NB500_515.out _).trans (hHeld.2.2.2.2.2.2.1)), ((cell_far (p := ⟨gb515, _, none⟩) NB500_515.out _).trans (hHeld.2.2.2.2.2.2.2))⟩ (fun hHeld => ?_)
 clear hK K
 refine pure_ (i := 26) (N := some 51) (v := ?_) (a' := ?_) #[true, true, true, true, true, true, true, true, true, true, true, true, true, true, true, true, true, true, true, true, true, true, true, true, true, true, true, false, false, false] rfl rfl (any_of HT_.out (by kernel_rfl)) (fun _ _ _ h => h) (Or.inl ⟨by rfl, ?_⟩) ?_ ?_
 rotate_left
 ·intro w'
  go_simp
  with_reducible rfl
 rotate_left
 ·simp only [Act.put, List.setIfInBounds_toArray, List.set_cons_zero, List.set_cons_succ, i64_w, i32_w]
  rfl
 refine one_ (i := 27) (N := none) #[true, true, true, true, true, true, true, true, true, true, true, true, true, true, true, true, true, true, true, true, true, true, true, true, true, true, true, true, false, false] rfl rfl (one_of HT_.out (by kernel_rfl)) (by decide) (fun K hK => ?_)
 have hs23 : w20.cell? ⟨gb515, 4, none⟩ = some (.int .i64 t505) := (blk_cell BK515.out 4).trans rfl
 have hfs23 := blk_frozen BK515.out 4
 have hns23_0 := NB500_515.out
 have hns23_1 := NB514_515.out
 have hms23_0 := NB515_500.out
 have hms23_1 := NB515_514.out
 refine skip_ (w1 := ?_) (by rfl) rfl ?_ ?_
 rotate_left
 ·go_simp
  rfl
 refine hK.out _ _ ⟨((cell_far (p := ⟨gb515, _, none⟩) NB500_515.out _).trans (hHeld.1)), ((cell_far (p := ⟨gb515, _, none⟩) NB500_515.out _).trans (hHeld.2.1)), ((cell_far (p := ⟨gb515, _, none⟩) NB500_515.out _).trans (hHeld.2.2.1)), ((cell_far (p := ⟨gb515, _, none⟩) NB500_515.out _).trans (hHeld.2.2.2.1)), ((cell_far (p := ⟨gb515, _, none⟩) NB500_515.out _).trans (hHeld.2.2.2.2.1)), ((cell_far (p := ⟨gb515, _, none⟩) NB500_515.out _).trans (hHeld.2.2.2.2.2.1)), ((cell_far (p := ⟨gb515, _, none⟩) NB500_515.out _).trans (hHeld.2.2.2.2.2.2.1)), ((cell_far (p := ⟨gb515, _, none⟩) NB500_515.out _).trans (hHeld.2.2.2.2.2.2.2))⟩ (fun hHeld => ?_)
 clear hK K
 refine pure_ (i := 28) (N := some 52) (v := ?_) (a' := ?_) #[true, true, true, true, true, true, true, true, true, true, true, true, true, true, true, true, true, true, true, true, true, true, true, true, true, true, true, true, true, false] rfl rfl (any_of HT_.out (by kernel_rfl)) (fun _ _ _ h => h) (Or.inl ⟨by rfl, ?_⟩) ?_ ?_
 rotate_left
 ·intro w'
  go_simp
  with_reducible rfl
 rotate_left
 ·simp only [Act.put, List.setIfInBounds_toArray, List.set_cons_zero, List.set_cons_succ, i64_w, i32_w]
  rfl
 refine one_ (i := 29) (N := none) #[true, true, true, true, true, true, true, true, true, true, true, true, true, true, true, true, true, true, true, true, true, true, true, true, true, true, true, true, true, true] rfl rfl (one_of HT_.out (by kernel_rfl)) (by decide) (fun K hK => ?_)
 have hs24 : w20.cell? ⟨gb515, 7, none⟩ = some (.int .i64 t508) := (blk_cell BK515.out 7).trans rfl
 have hfs24 := blk_frozen BK515.out 7
 have hns24_0 := NB500_515.out
 have hns24_1 := NB514_515.out
 have hms24_0 := NB515_500.out
 have hms24_1 := NB515_514.out
 refine skip_ (w1 := ?_) (by rfl) rfl ?_ ?_
 rotate_left
 ·go_simp
  rfl
 refine hK.out _ _ ⟨((cell_far (p := ⟨gb515, _, none⟩) NB500_515.out _).trans (hHeld.1)), ((cell_far (p := ⟨gb515, _, none⟩) NB500_515.out _).trans (hHeld.2.1)), ((cell_far (p := ⟨gb515, _, none⟩) NB500_515.out _).trans (hHeld.2.2.1)), ((cell_far (p := ⟨gb515, _, none⟩) NB500_515.out _).trans (hHeld.2.2.2.1)), ((cell_far (p := ⟨gb515, _, none⟩) NB500_515.out _).trans (hHeld.2.2.2.2.1)), ((cell_far (p := ⟨gb515, _, none⟩) NB500_515.out _).trans (hHeld.2.2.2.2.2.1)), ((cell_far (p := ⟨gb515, _, none⟩) NB500_515.out _).trans (hHeld.2.2.2.2.2.2.1)), ((cell_far (p := ⟨gb515, _, none⟩) NB500_515.out _).trans (hHeld.2.2.2.2.2.2.2))⟩ (fun hHeld => ?_)
 clear hK K
 refine done_ (done_of HT_.out (by kernel_rfl)) ?_
 go_upto_region 6 with (fail)
 go_cut [58] (fun v58 wc => ∃ (kq : Nat) (x58_4 : Bool), v58 = .bool x58_4 ∧ Aside0 (apogeelaw18_ImpactGoes.j0 kq (wrap64 ((wrap64 (1 + (wrap64 (Int.tmod (IntKind.u64.wrap (a1)) 50)))) * 2)) x58_4 t501 t502 t503 t504 t505 t506 t507 t508 t509 t510 t511 t512 t501 t502 (wrap64 (t503 + t506)) (wrap64 (t504 + t507)) (wrap64 ((wrap64 (t505 + t508)) - (wrap64 (Int.tdiv (wrap64 ((wrap64 (1 + (wrap64 (Int.tmod (IntKind.u64.wrap (a1)) 50)))) * 2)) 2)))) t506 t507 (wrap64 (t508 - (wrap64 ((wrap64 (1 + (wrap64 (Int.tmod (IntKind.u64.wrap (a1)) 50)))) * 2)))) = some r) ∧ Aside0 (kq ≤ k) ∧ Aside0 (wc.heap[gb500]? = some (.cells #[.int .i64 t501, .int .i64 t502, .int .i64 t503, .int .i64 t504, .int .i64 t505, .int .i64 t506, .int .i64 t507, .int .i64 t508] 37 (0, 0))) ∧ Aside0 (wc.heap[gb514]? = some (.cells #[.int .i64 t509, .int .i64 t510, .int .i64 t511, .int .i64 t512] 42 (0, 0))) ∧ Aside0 (wc.heap[gb515]? = some (.cells #[.int .i64 t501, .int .i64 t502, .int .i64 (wrap64 (t503 + t506)), .int .i64 (wrap64 (t504 + t507)), .int .i64 (wrap64 ((wrap64 (t505 + t508)) - (wrap64 (Int.tdiv (wrap64 ((wrap64 (1 + (wrap64 (Int.tmod (IntKind.u64.wrap (a1)) 50)))) * 2)) 2)))), .int .i64 t506, .int .i64 t507, .int .i64 (wrap64 (t508 - (wrap64 ((wrap64 (1 + (wrap64 (Int.tmod (IntKind.u64.wrap (a1)) 50)))) * 2))))] 37 (0, 0))) ∧ Aside0 (Below w.heap.size w wc))
 case first =>
  have H := HC5.out
  clear HC5
  replace H := Option.bind_eq_some_iff.mp H
  obtain ⟨t516, A250, H⟩ := H
  replace H : (if t516 = true then (apogeelaw18_ImpactGoes.j0 k (wrap64 ((wrap64 (1 + (wrap64 (Int.tmod (IntKind.u64.wrap (a1)) 50)))) * 2)) (!t513) t501 t502 t503 t504 t505 t506 t507 t508 t509 t510 t511 t512 t501 t502 (wrap64 (t503 + t506)) (wrap64 (t504 + t507)) (wrap64 ((wrap64 (t505 + t508)) - (wrap64 (Int.tdiv (wrap64 ((wrap64 (1 + (wrap64 (Int.tmod (IntKind.u64.wrap (a1)) 50)))) * 2)) 2)))) t506 t507 (wrap64 (t508 - (wrap64 ((wrap64 (1 + (wrap64 (Int.tmod (IntKind.u64.wrap (a1)) 50)))) * 2))))) else (apogeelaw18_ImpactGoes.j0 k (wrap64 ((wrap64 (1 + (wrap64 (Int.tmod (IntKind.u64.wrap (a1)) 50)))) * 2)) true t501 t502 t503 t504 t505 t506 t507 t508 t509 t510 t511 t512 t501 t502 (wrap64 (t503 + t506)) (wrap64 (t504 + t507)) (wrap64 ((wrap64 (t505 + t508)) - (wrap64 (Int.tdiv (wrap64 ((wrap64 (1 + (wrap64 (Int.tmod (IntKind.u64.wrap (a1)) 50)))) * 2)) 2)))) t506 t507 (wrap64 (t508 - (wrap64 ((wrap64 (1 + (wrap64 (Int.tmod (IntKind.u64.wrap (a1)) 50)))) * 2)))))) = some r := H
  have A25 := bA A250
  clear A250
  by_cases c26 : t516 = true
  subst c26
  rw [if_pos rfl] at H
  have H' := bA H
  clear H
  rotate_left
  replace c26 := Bool.eq_false_iff.mpr c26
  subst c26
  rw [if_neg (show ¬ (false = true) by decide)] at H
  have H' := bA H
  clear H
  rotate_left
  all_goals go_wp2_with (first | ((first | ((with_reducible refine gate_callee (f := 26) rfl ?_); refine bC (some 53) Try.func26 #[] ?_) | go_at_call 26); (with_reducible refine (apogeelaw18_awake.calls k  true _ A25.out).mono ?_); rintro e wz0 ⟨rfl, hb⟩; (first | refine ⟨_, rfl, ?_⟩ | skip); have n0_ := bA (blk_below (g := gb500) (o := .cells #[.int .i64 t501, .int .i64 t502, .int .i64 t503, .int .i64 t504, .int .i64 t505, .int .i64 t506, .int .i64 t507, .int .i64 t508] 37 (0, 0)) (by (with_reducible repeat (first | refine blk_drewN ?_ _ | refine blk_drew ?_ | refine blk_alloc ?_ _)); refine blk_far ?_ NB500_515.out _; (with_reducible repeat (first | refine blk_drewN ?_ _ | refine blk_drew ?_ | refine blk_alloc ?_ _)); refine blk_far ?_ NB500_515.out _; (with_reducible repeat (first | refine blk_drewN ?_ _ | refine blk_drew ?_ | refine blk_alloc ?_ _)); refine blk_far ?_ NB500_515.out _; (with_reducible repeat (first | refine blk_drewN ?_ _ | refine blk_drew ?_ | refine blk_alloc ?_ _)); refine blk_far ?_ NB500_515.out _; (with_reducible repeat (first | refine blk_drewN ?_ _ | refine blk_drew ?_ | refine blk_alloc ?_ _)); exact BK500.out) hb); have n1_ := bA (blk_below (g := gb514) (o := .cells #[.int .i64 t509, .int .i64 t510, .int .i64 t511, .int .i64 t512] 42 (0, 0)) (by (with_reducible repeat (first | refine blk_drewN ?_ _ | refine blk_drew ?_ | refine blk_alloc ?_ _)); refine blk_far ?_ NB514_515.out _; (with_reducible repeat (first | refine blk_drewN ?_ _ | refine blk_drew ?_ | refine blk_alloc ?_ _)); refine blk_far ?_ NB514_515.out _; (with_reducible repeat (first | refine blk_drewN ?_ _ | refine blk_drew ?_ | refine blk_alloc ?_ _)); refine blk_far ?_ NB514_515.out _; (with_reducible repeat (first | refine blk_drewN ?_ _ | refine blk_drew ?_ | refine blk_alloc ?_ _)); refine blk_far ?_ NB514_515.out _; (with_reducible repeat (first | refine blk_drewN ?_ _ | refine blk_drew ?_ | refine blk_alloc ?_ _)); exact BK514.out) hb); have n2_ := bA (blk_below (g := gb515) (o := .cells #[.int .i64 t501, .int .i64 t502, .int .i64 (wrap64 (t503 + t506)), .int .i64 (wrap64 (t504 + t507)), .int .i64 (wrap64 ((wrap64 (t505 + t508)) - (wrap64 (Int.tdiv (wrap64 ((wrap64 (1 + (wrap64 (Int.tmod (IntKind.u64.wrap (a1)) 50)))) * 2)) 2)))), .int .i64 t506, .int .i64 t507, .int .i64 (wrap64 (t508 - (wrap64 ((wrap64 (1 + (wrap64 (Int.tmod (IntKind.u64.wrap (a1)) 50)))) * 2))))] 37 (0, 0)) (by (with_reducible repeat (first | refine blk_drewN ?_ _ | refine blk_drew ?_ | refine blk_alloc ?_ _)); refine blk_put (cs := #[.int .i64 t501, .int .i64 t502, .int .i64 (wrap64 (t503 + t506)), .int .i64 (wrap64 (t504 + t507)), .int .i64 (wrap64 ((wrap64 (t505 + t508)) - (wrap64 (Int.tdiv (wrap64 ((wrap64 (1 + (wrap64 (Int.tmod (IntKind.u64.wrap (a1)) 50)))) * 2)) 2)))), .int .i64 t506, .int .i64 t507, .int .i64 t508]) ?_ 7 _ rfl; (with_reducible repeat (first | refine blk_drewN ?_ _ | refine blk_drew ?_ | refine blk_alloc ?_ _)); refine blk_put (cs := #[.int .i64 t501, .int .i64 t502, .int .i64 (wrap64 (t503 + t506)), .int .i64 (wrap64 (t504 + t507)), .int .i64 t505, .int .i64 t506, .int .i64 t507, .int .i64 t508]) ?_ 4 _ rfl; (with_reducible repeat (first | refine blk_drewN ?_ _ | refine blk_drew ?_ | refine blk_alloc ?_ _)); refine blk_put (cs := #[.int .i64 t501, .int .i64 t502, .int .i64 (wrap64 (t503 + t506)), .int .i64 t504, .int .i64 t505, .int .i64 t506, .int .i64 t507, .int .i64 t508]) ?_ 3 _ rfl; (with_reducible repeat (first | refine blk_drewN ?_ _ | refine blk_drew ?_ | refine blk_alloc ?_ _)); refine blk_put (cs := #[.int .i64 t501, .int .i64 t502, .int .i64 t503, .int .i64 t504, .int .i64 t505, .int .i64 t506, .int .i64 t507, .int .i64 t508]) ?_ 2 _ rfl; (with_reducible repeat (first | refine blk_drewN ?_ _ | refine blk_drew ?_ | refine blk_alloc ?_ _)); exact BK515.out) hb); have n3_ := bA (bS hb); clear BK500; clear BK514; clear BK515; clear HB; have BK500 := n0_; have BK514 := n1_; have BK515 := n2_; have HB := n3_; clear n0_ n1_ n2_ n3_; (try clear hb); (try clear hb2); (try clear hk); (try clear hi)) | ((first | ((with_reducible refine gate_callee (f := 26) rfl ?_); refine bC (some 53) Try.func26 #[] ?_) | go_at_call 26); (with_reducible refine (apogeelaw18_awake.calls k  false _ A25.out).mono ?_); rintro e wz0 ⟨rfl, hb⟩; (first | refine ⟨_, rfl, ?_⟩ | skip); have n0_ := bA (blk_below (g := gb500) (o := .cells #[.int .i64 t501, .int .i64 t502, .int .i64 t503, .int .i64 t504, .int .i64 t505, .int .i64 t506, .int .i64 t507, .int .i64 t508] 37 (0, 0)) (by (with_reducible repeat (first | refine blk_drewN ?_ _ | refine blk_drew ?_ | refine blk_alloc ?_ _)); refine blk_far ?_ NB500_515.out _; (with_reducible repeat (first | refine blk_drewN ?_ _ | refine blk_drew ?_ | refine blk_alloc ?_ _)); refine blk_far ?_ NB500_515.out _; (with_reducible repeat (first | refine blk_drewN ?_ _ | refine blk_drew ?_ | refine blk_alloc ?_ _)); refine blk_far ?_ NB500_515.out _; (with_reducible repeat (first | refine blk_drewN ?_ _ | refine blk_drew ?_ | refine blk_alloc ?_ _)); refine blk_far ?_ NB500_515.out _; (with_reducible repeat (first | refine blk_drewN ?_ _ | refine blk_drew ?_ | refine blk_alloc ?_ _)); exact BK500.out) hb); have n1_ := bA (blk_below (g := gb514) (o := .cells #[.int .i64 t509, .int .i64 t510, .int .i64 t511, .int .i64 t512] 42 (0, 0)) (by (with_reducible repeat (first | refine blk_drewN ?_ _ | refine blk_drew ?_ | refine blk_alloc ?_ _)); refine blk_far ?_ NB514_515.out _; (with_reducible repeat (first | refine blk_drewN ?_ _ | refine blk_drew ?_ | refine blk_alloc ?_ _)); refine blk_far ?_ NB514_515.out _; (with_reducible repeat (first | refine blk_drewN ?_ _ | refine blk_drew ?_ | refine blk_alloc ?_ _)); refine blk_far ?_ NB514_515.out _; (with_reducible repeat (first | refine blk_drewN ?_ _ | refine blk_drew ?_ | refine blk_alloc ?_ _)); refine blk_far ?_ NB514_515.out _; (with_reducible repeat (first | refine blk_drewN ?_ _ | refine blk_drew ?_ | refine blk_alloc ?_ _)); exact BK514.out) hb); have n2_ := bA (blk_below (g := gb515) (o := .cells #[.int .i64 t501, .int .i64 t502, .int .i64 (wrap64 (t503 + t506)), .int .i64 (wrap64 (t504 + t507)), .int .i64 (wrap64 ((wrap64 (t505 + t508)) - (wrap64 (Int.tdiv (wrap64 ((wrap64 (1 + (wrap64 (Int.tmod (IntKind.u64.wrap (a1)) 50)))) * 2)) 2)))), .int .i64 t506, .int .i64 t507, .int .i64 (wrap64 (t508 - (wrap64 ((wrap64 (1 + (wrap64 (Int.tmod (IntKind.u64.wrap (a1)) 50)))) * 2))))] 37 (0, 0)) (by (with_reducible repeat (first | refine blk_drewN ?_ _ | refine blk_drew ?_ | refine blk_alloc ?_ _)); refine blk_put (cs := #[.int .i64 t501, .int .i64 t502, .int .i64 (wrap64 (t503 + t506)), .int .i64 (wrap64 (t504 + t507)), .int .i64 (wrap64 ((wrap64 (t505 + t508)) - (wrap64 (Int.tdiv (wrap64 ((wrap64 (1 + (wrap64 (Int.tmod (IntKind.u64.wrap (a1)) 50)))) * 2)) 2)))), .int .i64 t506, .int .i64 t507, .int .i64 t508]) ?_ 7 _ rfl; (with_reducible repeat (first | refine blk_drewN ?_ _ | refine blk_drew ?_ | refine blk_alloc ?_ _)); refine blk_put (cs := #[.int .i64 t501, .int .i64 t502, .int .i64 (wrap64 (t503 + t506)), .int .i64 (wrap64 (t504 + t507)), .int .i64 t505, .int .i64 t506, .int .i64 t507, .int .i64 t508]) ?_ 4 _ rfl; (with_reducible repeat (first | refine blk_drewN ?_ _ | refine blk_drew ?_ | refine blk_alloc ?_ _)); refine blk_put (cs := #[.int .i64 t501, .int .i64 t502, .int .i64 (wrap64 (t503 + t506)), .int .i64 t504, .int .i64 t505, .int .i64 t506, .int .i64 t507, .int .i64 t508]) ?_ 3 _ rfl; (with_reducible repeat (first | refine blk_drewN ?_ _ | refine blk_drew ?_ | refine blk_alloc ?_ _)); refine blk_put (cs := #[.int .i64 t501, .int .i64 t502, .int .i64 t503, .int .i64 t504, .int .i64 t505, .int .i64 t506, .int .i64 t507, .int .i64 t508]) ?_ 2 _ rfl; (with_reducible repeat (first | refine blk_drewN ?_ _ | refine blk_drew ?_ | refine blk_alloc ?_ _)); exact BK515.out) hb); have n3_ := bA (bS hb); clear BK500; clear BK514; clear BK515; clear HB; have BK500 := n0_; have BK514 := n1_; have BK515 := n2_; have HB := n3_; clear n0_ n1_ n2_ n3_; (try clear hb); (try clear hb2); (try clear hk); (try clear hi)))
  ·go_meet
   case rel => exact ⟨_, (!t513), (by first | rfl | (simp; done) | (simp [*]; done)), H', ⟨by first | omega | exact Nat.le_refl _⟩, ⟨by (with_reducible repeat (first | refine blk_drewN ?_ _ | refine blk_drew ?_ | refine blk_alloc ?_ _)); exact BK500.out⟩, ⟨by (with_reducible repeat (first | refine blk_drewN ?_ _ | refine blk_drew ?_ | refine blk_alloc ?_ _)); exact BK514.out⟩, ⟨by (with_reducible repeat (first | refine blk_drewN ?_ _ | refine blk_drew ?_ | refine blk_alloc ?_ _)); exact BK515.out⟩, ⟨bX⟩⟩
  ·go_meet
   case rel => exact ⟨_, (true), (by first | rfl | (simp; done) | (simp [*]; done)), H', ⟨by first | omega | exact Nat.le_refl _⟩, ⟨by (with_reducible repeat (first | refine blk_drewN ?_ _ | refine blk_drew ?_ | refine blk_alloc ?_ _)); exact BK500.out⟩, ⟨by (with_reducible repeat (first | refine blk_drewN ?_ _ | refine blk_drew ?_ | refine blk_alloc ?_ _)); exact BK514.out⟩, ⟨by (with_reducible repeat (first | refine blk_drewN ?_ _ | refine blk_drew ?_ | refine blk_alloc ?_ _)); exact BK515.out⟩, ⟨bX⟩⟩
 case rest =>
  clear HC5
  try clear c1
  try clear c2
  try clear p2
  try clear c6
  try clear p6
  try clear c12
  try clear c16
  try clear c17
  try clear c24
  try clear c25
  try clear c26
  try clear hcz13_0
  try clear hcz13_1
  try clear hcz13_2
  try clear hcz13_3
  try clear hcz14_0
  try clear hcz14_1
  try clear hcz14_2
  try clear hcz14_3
  try clear hcz14_4
  try clear hcz14_5
  try clear hcz14_6
  try clear hcz14_7
  try clear hcz18_0
  try clear hcz18_1
  try clear hcz18_2
  try clear hcz18_3
  try clear hcz18_4
  try clear hcz18_5
  try clear hcz18_6
  try clear hcz18_7
  try clear hcz7_0
  try clear hcz7_1
  try clear hcz7_2
  try clear hcz7_3
  try clear hcz7_4
  try clear hcz7_5
  try clear hcz7_6
  try clear hcz7_7
  try clear hcz9_0
  try clear hcz9_1
  try clear hcz9_2
  try clear hcz9_3
  try clear hcz9_4
  try clear hcz9_5
  try clear hcz9_6
  try clear hcz9_7
  try clear hfz13_0
  try clear hfz13_1
  try clear hfz13_2
  try clear hfz13_3
  try clear hfz14_0
  try clear hfz14_1
  try clear hfz14_2
  try clear hfz14_3
  try clear hfz14_4
  try clear hfz14_5
  try clear hfz14_6
  try clear hfz14_7
  try clear hfz18_0
  try clear hfz18_1
  try clear hfz18_2
  try clear hfz18_3
  try clear hfz18_4
  try clear hfz18_5
  try clear hfz18_6
  try clear hfz18_7
  try clear hfz7_0
  try clear hfz7_1
  try clear hfz7_2
  try clear hfz7_3
  try clear hfz7_4
  try clear hfz7_5
  try clear hfz7_6
  try clear hfz7_7
  try clear hfz9_0
  try clear hfz9_1
  try clear hfz9_2
  try clear hfz9_3
  try clear hfz9_4
  try clear hfz9_5
  try clear hfz9_6
  try clear hfz9_7
  obtain ⟨kq, x58_4, rfl, HA, HJ4, BK500, BK514, BK515, HB⟩ := hcut
  cases kq with
  | zero => exact absurd HA.out (by simp [apogeelaw18_ImpactGoes.j0])
  | succ kj4 =>
   have H := HA.out
   clear HA
   simp only [apogeelaw18_ImpactGoes.j0] at H
   by_cases c29 : x58_4 = true
   subst c29
   rw [if_pos rfl] at H
   exact absurd H (by simp)
   replace c29 := Bool.eq_false_iff.mpr c29
   subst c29
   rw [if_neg (show ¬ (false = true) by decide)] at H
   by_cases c30 : (wrap64 ((wrap64 (t505 + t508)) - (wrap64 (Int.tdiv (wrap64 ((wrap64 (1 + (wrap64 (Int.tmod (IntKind.u64.wrap (a1)) 50)))) * 2)) 2)))) < 0
   rw [if_pos c30] at H
   have c30b0 : decide ((wrap64 ((wrap64 (t505 + t508)) - (wrap64 (Int.tdiv (wrap64 ((wrap64 (1 + (wrap64 (Int.tmod (IntKind.u64.wrap (a1)) 50)))) * 2)) 2)))) < 0) = true := decide_eq_true c30
   clear c30
   obtain rfl := Option.some.inj H
   have hnb31 := NB515_500.out
   have hnc31 := NB500_515.out
   have hnb32 := NB515_514.out
   have hnc32 := NB514_515.out
   have hcz33_0 : wc.cell? ⟨gb515, 0, none⟩ = some (.int .i64 t501) := (blk_cell BK515.out 0).trans rfl
   have hcz33_1 : wc.cell? ⟨gb515, 1, none⟩ = some (.int .i64 t502) := (blk_cell BK515.out 1).trans rfl
   have hcz33_2 : wc.cell? ⟨gb515, 2, none⟩ = some (.int .i64 (wrap64 (t503 + t506))) := (blk_cell BK515.out 2).trans rfl
   have hcz33_3 : wc.cell? ⟨gb515, 3, none⟩ = some (.int .i64 (wrap64 (t504 + t507))) := (blk_cell BK515.out 3).trans rfl
   have hcz33_4 : wc.cell? ⟨gb515, 4, none⟩ = some (.int .i64 (wrap64 ((wrap64 (t505 + t508)) - (wrap64 (Int.tdiv (wrap64 ((wrap64 (1 + (wrap64 (Int.tmod (IntKind.u64.wrap (a1)) 50)))) * 2)) 2))))) := (blk_cell BK515.out 4).trans rfl
   have hcz33_5 : wc.cell? ⟨gb515, 5, none⟩ = some (.int .i64 t506) := (blk_cell BK515.out 5).trans rfl
   have hcz33_6 : wc.cell? ⟨gb515, 6, none⟩ = some (.int .i64 t507) := (blk_cell BK515.out 6).trans rfl
   have hcz33_7 : wc.cell? ⟨gb515, 7, none⟩ = some (.int .i64 (wrap64 (t508 - (wrap64 ((wrap64 (1 + (wrap64 (Int.tmod (IntKind.u64.wrap (a1)) 50)))) * 2))))) := (blk_cell BK515.out 7).trans rfl
   have hfz33_0 := blk_frozen BK515.out 0
   have hfz33_1 := blk_frozen BK515.out 1
   have hfz33_2 := blk_frozen BK515.out 2
   have hfz33_3 := blk_frozen BK515.out 3
   have hfz33_4 := blk_frozen BK515.out 4
   have hfz33_5 := blk_frozen BK515.out 5
   have hfz33_6 := blk_frozen BK515.out 6
   have hfz33_7 := blk_frozen BK515.out 7
   rotate_left
   rw [if_neg c30] at H
   have c30b0 : decide ((wrap64 ((wrap64 (t505 + t508)) - (wrap64 (Int.tdiv (wrap64 ((wrap64 (1 + (wrap64 (Int.tmod (IntKind.u64.wrap (a1)) 50)))) * 2)) 2)))) < 0) = false := decide_eq_false c30
   clear c30
   replace H := Option.bind_eq_some_iff.mp H
   obtain ⟨⟨t517, t518, t519, t520, t521⟩, A340, H⟩ := H
   replace H : (if t521 = true then ((apogeeref17_Time.f kj4 (wrap64 ((wrap64 (t505 + t508)) - (wrap64 (Int.tdiv (wrap64 ((wrap64 (1 + (wrap64 (Int.tmod (IntKind.u64.wrap (a1)) 50)))) * 2)) 2)))) (wrap64 (t508 - (wrap64 ((wrap64 (1 + (wrap64 (Int.tmod (IntKind.u64.wrap (a1)) 50)))) * 2)))) (wrap64 ((wrap64 (1 + (wrap64 (Int.tmod (IntKind.u64.wrap (a1)) 50)))) * 2))).bind fun t523 => ((apogeeref17_Time.f kj4 t505 t508 (wrap64 ((wrap64 (1 + (wrap64 (Int.tmod (IntKind.u64.wrap (a1)) 50)))) * 2))).bind fun t524 => (if (wrap64 (t523 + 1)) = t524 then (some ((t517 == t509 && (t518 == t510)) && ((t519 == t511 && (t520 == t512))))) else (none)))) else (none)) = some r := H
   have A34 := bA A340
   clear A340
   by_cases c35 : t521 = true
   subst c35
   rw [if_pos rfl] at H
   replace H := Option.bind_eq_some_iff.mp H
   obtain ⟨t523, A360, H⟩ := H
   replace H : ((apogeeref17_Time.f kj4 t505 t508 (wrap64 ((wrap64 (1 + (wrap64 (Int.tmod (IntKind.u64.wrap (a1)) 50)))) * 2))).bind fun t524 => (if (wrap64 (t523 + 1)) = t524 then (some ((t517 == t509 && (t518 == t510)) && ((t519 == t511 && (t520 == t512))))) else (none))) = some r := H
   have A36 := bA A360
   clear A360
   replace H := Option.bind_eq_some_iff.mp H
   obtain ⟨t524, A370, H⟩ := H
   replace H : (if (wrap64 (t523 + 1)) = t524 then (some ((t517 == t509 && (t518 == t510)) && ((t519 == t511 && (t520 == t512))))) else (none)) = some r := H
   have A37 := bA A370
   clear A370
   by_cases c38 : (wrap64 (t523 + 1)) = t524
   rw [if_pos c38] at H
   have c38b0 : ((wrap64 (t523 + 1)) == t524) = true := beq_iff_eq.mpr c38
   have c38b1 : ((wrap64 (t523 + 1)) != t524) = false := bne_eq_false_iff_eq.mpr c38
   clear c38
   obtain rfl := Option.some.inj H
   have hnb39 := NB515_500.out
   have hnc39 := NB500_515.out
   have hnb40 := NB515_514.out
   have hnc40 := NB514_515.out
   have hcz41_0 : wc.cell? ⟨gb515, 0, none⟩ = some (.int .i64 t501) := (blk_cell BK515.out 0).trans rfl
   have hcz41_1 : wc.cell? ⟨gb515, 1, none⟩ = some (.int .i64 t502) := (blk_cell BK515.out 1).trans rfl
   have hcz41_2 : wc.cell? ⟨gb515, 2, none⟩ = some (.int .i64 (wrap64 (t503 + t506))) := (blk_cell BK515.out 2).trans rfl
   have hcz41_3 : wc.cell? ⟨gb515, 3, none⟩ = some (.int .i64 (wrap64 (t504 + t507))) := (blk_cell BK515.out 3).trans rfl
   have hcz41_4 : wc.cell? ⟨gb515, 4, none⟩ = some (.int .i64 (wrap64 ((wrap64 (t505 + t508)) - (wrap64 (Int.tdiv (wrap64 ((wrap64 (1 + (wrap64 (Int.tmod (IntKind.u64.wrap (a1)) 50)))) * 2)) 2))))) := (blk_cell BK515.out 4).trans rfl
   have hcz41_5 : wc.cell? ⟨gb515, 5, none⟩ = some (.int .i64 t506) := (blk_cell BK515.out 5).trans rfl
   have hcz41_6 : wc.cell? ⟨gb515, 6, none⟩ = some (.int .i64 t507) := (blk_cell BK515.out 6).trans rfl
   have hcz41_7 : wc.cell? ⟨gb515, 7, none⟩ = some (.int .i64 (wrap64 (t508 - (wrap64 ((wrap64 (1 + (wrap64 (Int.tmod (IntKind.u64.wrap (a1)) 50)))) * 2))))) := (blk_cell BK515.out 7).trans rfl
   have hfz41_0 := blk_frozen BK515.out 0
   have hfz41_1 := blk_frozen BK515.out 1
   have hfz41_2 := blk_frozen BK515.out 2
   have hfz41_3 := blk_frozen BK515.out 3
   have hfz41_4 := blk_frozen BK515.out 4
   have hfz41_5 := blk_frozen BK515.out 5
   have hfz41_6 := blk_frozen BK515.out 6
   have hfz41_7 := blk_frozen BK515.out 7
   rotate_left
   rw [if_neg c38] at H
   exact absurd H (by simp)
   replace c35 := Bool.eq_false_iff.mpr c35
   subst c35
   rw [if_neg (show ¬ (false = true) by decide)] at H
   exact absurd H (by simp)
   all_goals go_wp2_with (first | ((first | ((with_reducible refine gate_callee (f := 25) rfl ?_); refine bC (some 65) Try.func25 #[.agg #[.int .i64 t501, .int .i64 t502, .int .i64 (wrap64 (t503 + t506)), .int .i64 (wrap64 (t504 + t507)), .int .i64 (wrap64 ((wrap64 (t505 + t508)) - (wrap64 (Int.tdiv (wrap64 ((wrap64 (1 + (wrap64 (Int.tmod (IntKind.u64.wrap (a1)) 50)))) * 2)) 2)))), .int .i64 t506, .int .i64 t507, .int .i64 (wrap64 (t508 - (wrap64 ((wrap64 (1 + (wrap64 (Int.tmod (IntKind.u64.wrap (a1)) 50)))) * 2))))], .int .i64 (wrap64 ((wrap64 (1 + (wrap64 (Int.tmod (IntKind.u64.wrap (a1)) 50)))) * 2)), .int .i64 0] ?_) | go_at_call 25); (with_reducible refine (impact_Box.calls kj4 t501 t502 (wrap64 (t503 + t506)) (wrap64 (t504 + t507)) (wrap64 ((wrap64 (t505 + t508)) - (wrap64 (Int.tdiv (wrap64 ((wrap64 (1 + (wrap64 (Int.tmod (IntKind.u64.wrap (a1)) 50)))) * 2)) 2)))) t506 t507 (wrap64 (t508 - (wrap64 ((wrap64 (1 + (wrap64 (Int.tmod (IntKind.u64.wrap (a1)) 50)))) * 2)))) (wrap64 ((wrap64 (1 + (wrap64 (Int.tmod (IntKind.u64.wrap (a1)) 50)))) * 2)) 0 t517 t518 t519 t520 true _ A34.out).mono ?_); rintro e wz0 ⟨rfl, hb⟩; (first | refine ⟨_, rfl, ?_⟩ | skip); have n0_ := bA (bB BK500 hb); have n1_ := bA (bB BK514 hb); have n2_ := bA (bB BK515 hb); have n3_ := bA (bS hb); clear BK500; clear BK514; clear BK515; clear HB; have BK500 := n0_; have BK514 := n1_; have BK515 := n2_; have HB := n3_; clear n0_ n1_ n2_ n3_; (try clear hb); (try clear hb2); (try clear hk); (try clear hi)) | ((with_reducible refine gate_dst (N := 8) rfl ?_); refine bE (N := 8) (cs := #[.int .i64 0, .int .i64 0, .int .i64 0, .int .i64 0]) (t := 42) ?_; intro gb522 hg wz1 hbox hb; have n0_ := bA (bB BK500 hb); have n1_ := bA (bB BK514 hb); have n2_ := bA (bB BK515 hb); have n3_ := bA (bS hb); have n4_ := bA (hbox); have n5_ := bA ((bZ hg : w.heap.size ≤ gb522)); have n6_ := bA ((bZ hg : w.heap.size ≤ gb522)); have n7_ := bA ((bL BK500 hg : gb500 ≠ gb522)); have n8_ := bA ((bG BK500 hg : gb522 ≠ gb500)); have n9_ := bA ((bL BK514 hg : gb514 ≠ gb522)); have n10_ := bA ((bG BK514 hg : gb522 ≠ gb514)); have n11_ := bA ((bL BK515 hg : gb515 ≠ gb522)); have n12_ := bA ((bG BK515 hg : gb522 ≠ gb515)); clear BK500; clear BK514; clear BK515; clear HB; have BK500 := n0_; have BK514 := n1_; have BK515 := n2_; have HB := n3_; have BK522 := n4_; have GW522 := n5_; have GE522 := n6_; have NB500_522 := n7_; have NB522_500 := n8_; have NB514_522 := n9_; have NB522_514 := n10_; have NB515_522 := n11_; have NB522_515 := n12_; clear n0_ n1_ n2_ n3_ n4_ n5_ n6_ n7_ n8_ n9_ n10_ n11_ n12_; clear hb hbox hg; have hz1 := NB522_500.out; have hz2 := NB500_522.out; have hz3 := NB522_514.out; have hz4 := NB514_522.out; have hz5 := NB522_515.out; have hz6 := NB515_522.out; have hz7 : wz1.cell? ⟨gb522, 0, none⟩ = some (.int .i64 0) := (blk_cell BK522.out 0).trans rfl; have hz8 : wz1.cell? ⟨gb522, 1, none⟩ = some (.int .i64 0) := (blk_cell BK522.out 1).trans rfl; have hz9 : wz1.cell? ⟨gb522, 2, none⟩ = some (.int .i64 0) := (blk_cell BK522.out 2).trans rfl; have hz10 : wz1.cell? ⟨gb522, 3, none⟩ = some (.int .i64 0) := (blk_cell BK522.out 3).trans rfl; have hz11 := blk_frozen BK522.out 0; have hz12 := blk_frozen BK522.out 1; have hz13 := blk_frozen BK522.out 2; have hz14 := blk_frozen BK522.out 3; have hz15 : wz1.cell? ⟨gb515, 0, none⟩ = some (.int .i64 t501) := (blk_cell BK515.out 0).trans rfl; have hz16 : wz1.cell? ⟨gb515, 1, none⟩ = some (.int .i64 t502) := (blk_cell BK515.out 1).trans rfl; have hz17 : wz1.cell? ⟨gb515, 2, none⟩ = some (.int .i64 (wrap64 (t503 + t506))) := (blk_cell BK515.out 2).trans rfl; have hz18 : wz1.cell? ⟨gb515, 3, none⟩ = some (.int .i64 (wrap64 (t504 + t507))) := (blk_cell BK515.out 3).trans rfl; have hz19 : wz1.cell? ⟨gb515, 4, none⟩ = some (.int .i64 (wrap64 ((wrap64 (t505 + t508)) - (wrap64 (Int.tdiv (wrap64 ((wrap64 (1 + (wrap64 (Int.tmod (IntKind.u64.wrap (a1)) 50)))) * 2)) 2))))) := (blk_cell BK515.out 4).trans rfl; have hz20 : wz1.cell? ⟨gb515, 5, none⟩ = some (.int .i64 t506) := (blk_cell BK515.out 5).trans rfl; have hz21 : wz1.cell? ⟨gb515, 6, none⟩ = some (.int .i64 t507) := (blk_cell BK515.out 6).trans rfl; have hz22 : wz1.cell? ⟨gb515, 7, none⟩ = some (.int .i64 (wrap64 (t508 - (wrap64 ((wrap64 (1 + (wrap64 (Int.tmod (IntKind.u64.wrap (a1)) 50)))) * 2))))) := (blk_cell BK515.out 7).trans rfl; have hz23 := blk_frozen BK515.out 0; have hz24 := blk_frozen BK515.out 1; have hz25 := blk_frozen BK515.out 2; have hz26 := blk_frozen BK515.out 3; have hz27 := blk_frozen BK515.out 4; have hz28 := blk_frozen BK515.out 5; have hz29 := blk_frozen BK515.out 6; have hz30 := blk_frozen BK515.out 7) | ((first | ((with_reducible refine gate_callee (f := 12) rfl ?_); refine bC (some 75) Try.func12 #[.int .i64 (wrap64 ((wrap64 (t505 + t508)) - (wrap64 (Int.tdiv (wrap64 ((wrap64 (1 + (wrap64 (Int.tmod (IntKind.u64.wrap (a1)) 50)))) * 2)) 2)))), .int .i64 (wrap64 (t508 - (wrap64 ((wrap64 (1 + (wrap64 (Int.tmod (IntKind.u64.wrap (a1)) 50)))) * 2)))), .int .i64 (wrap64 ((wrap64 (1 + (wrap64 (Int.tmod (IntKind.u64.wrap (a1)) 50)))) * 2))] ?_) | go_at_call 12); (with_reducible refine (apogeeref17_Time.calls kj4 (wrap64 ((wrap64 (t505 + t508)) - (wrap64 (Int.tdiv (wrap64 ((wrap64 (1 + (wrap64 (Int.tmod (IntKind.u64.wrap (a1)) 50)))) * 2)) 2)))) (wrap64 (t508 - (wrap64 ((wrap64 (1 + (wrap64 (Int.tmod (IntKind.u64.wrap (a1)) 50)))) * 2)))) (wrap64 ((wrap64 (1 + (wrap64 (Int.tmod (IntKind.u64.wrap (a1)) 50)))) * 2)) t523 _ A36.out).mono ?_); rintro e w' ⟨rfl, ⟨nd, rfl⟩⟩; (first | refine ⟨_, rfl, ?_⟩ | skip); have hz31 := NB500_514.out; have hz32 := NB514_500.out; have hz33 : wz1.cell? ⟨gb500, 0, none⟩ = some (.int .i64 t501) := (blk_cell BK500.out 0).trans rfl; have hz34 : wz1.cell? ⟨gb500, 1, none⟩ = some (.int .i64 t502) := (blk_cell BK500.out 1).trans rfl; have hz35 : wz1.cell? ⟨gb500, 2, none⟩ = some (.int .i64 t503) := (blk_cell BK500.out 2).trans rfl; have hz36 : wz1.cell? ⟨gb500, 3, none⟩ = some (.int .i64 t504) := (blk_cell BK500.out 3).trans rfl; have hz37 : wz1.cell? ⟨gb500, 4, none⟩ = some (.int .i64 t505) := (blk_cell BK500.out 4).trans rfl; have hz38 : wz1.cell? ⟨gb500, 5, none⟩ = some (.int .i64 t506) := (blk_cell BK500.out 5).trans rfl; have hz39 : wz1.cell? ⟨gb500, 6, none⟩ = some (.int .i64 t507) := (blk_cell BK500.out 6).trans rfl; have hz40 : wz1.cell? ⟨gb500, 7, none⟩ = some (.int .i64 t508) := (blk_cell BK500.out 7).trans rfl; have hz41 := blk_frozen BK500.out 0; have hz42 := blk_frozen BK500.out 1; have hz43 := blk_frozen BK500.out 2; have hz44 := blk_frozen BK500.out 3; have hz45 := blk_frozen BK500.out 4; have hz46 := blk_frozen BK500.out 5; have hz47 := blk_frozen BK500.out 6; have hz48 := blk_frozen BK500.out 7) | ((first | ((with_reducible refine gate_callee (f := 12) rfl ?_); refine bC (some 83) Try.func12 #[.int .i64 t505, .int .i64 t508, .int .i64 (wrap64 ((wrap64 (1 + (wrap64 (Int.tmod (IntKind.u64.wrap (a1)) 50)))) * 2))] ?_) | go_at_call 12); (with_reducible refine (apogeeref17_Time.calls kj4 t505 t508 (wrap64 ((wrap64 (1 + (wrap64 (Int.tmod (IntKind.u64.wrap (a1)) 50)))) * 2)) t524 _ A37.out).mono ?_); rintro e w' ⟨rfl, ⟨nd, rfl⟩⟩; (first | refine ⟨_, rfl, ?_⟩ | skip); have hz49 : wz1.cell? ⟨gb514, 0, none⟩ = some (.int .i64 t509) := (blk_cell BK514.out 0).trans rfl; have hz50 : wz1.cell? ⟨gb514, 1, none⟩ = some (.int .i64 t510) := (blk_cell BK514.out 1).trans rfl; have hz51 : wz1.cell? ⟨gb514, 2, none⟩ = some (.int .i64 t511) := (blk_cell BK514.out 2).trans rfl; have hz52 : wz1.cell? ⟨gb514, 3, none⟩ = some (.int .i64 t512) := (blk_cell BK514.out 3).trans rfl; have hz53 := blk_frozen BK514.out 0; have hz54 := blk_frozen BK514.out 1; have hz55 := blk_frozen BK514.out 2; have hz56 := blk_frozen BK514.out 3))
   all_goals (go_ret; exact bF)
end Go.Proofs.Ytlifeghjcgbfnaa.G
