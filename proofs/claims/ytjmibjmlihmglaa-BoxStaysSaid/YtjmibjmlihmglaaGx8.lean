-- Written by a program of this session out of the translation; Lean checks it.
import Derived.Test.YtjmibjmlihmglaaGx0
import Derived.Test.YtjmibjmlihmglaaGx5
namespace Go.Proofs.Ytjmibjmlihmglaa.G
open Go.RowKit Go.Proofs.YtjmibjmlihmglaaW.PrintWords Go.Proofs.YtjmibjmlihmglaaW.PrintLast Go.Proofs.YtjmibjmlihmglaaW.PrintMore
attribute [local go_sem] max2_int min2_int max_two min_two max_three min_three max_four min_four   -- for this text's walks alone
set_option linter.unusedVariables false
set_option linter.unusedSimpArgs false

/-! ### fix_Clamp: function 96 -/
def fix_Clamp.f (a0 : Int) (a1 : Int) (a2 : Int) : Option (Int) := if a0 < a1 then (some a1) else (if a0 > a2 then (some a2) else (some a0))
set_option maxHeartbeats 8000000 in
set_option maxRecDepth 100000 in
theorem fix_Clamp.calls (a0 : Int) (a1 : Int) (a2 : Int) (r : Int) (w : World) (h : fix_Clamp.f a0 a1 a2 = some r) :
  Calls Try.prog 96 #[.int .i64 a0, .int .i64 a1, .int .i64 a2] w fun e w' => e = .returned (.int .i64 r) ∧ Drawn0 w w' := by
 have H : (if a0 < a1 then (some a1) else (if a0 > a2 then (some a2) else (some a0))) = some r := h
 clear h
 by_cases c4 : a0 < a1
 rw [if_pos c4] at H
 have c4b0 : decide (a0 < a1) = true := decide_eq_true c4
 clear c4
 obtain rfl := Option.some.inj H
 rotate_left
 rw [if_neg c4] at H
 have c4b0 : decide (a0 < a1) = false := decide_eq_false c4
 clear c4
 by_cases c5 : a0 > a2
 rw [if_pos c5] at H
 have c5b0 : decide (a2 < a0) = true := decide_eq_true c5
 clear c5
 obtain rfl := Option.some.inj H
 rotate_left
 rw [if_neg c5] at H
 have c5b0 : decide (a2 < a0) = false := decide_eq_false c5
 clear c5
 obtain rfl := Option.some.inj H
 rotate_left
 all_goals go_enter Try.func96, Try.ntmps96
 all_goals go_wp2
 all_goals (go_ret; exact bD)
/-! ### box_Of_1: function 97 -/
def box_Of_1.f (a0 : Int) : Option (Int) := (fix_Clamp.f a0 (-1099511627776) 1099511627776).bind fun t189 => (some t189)
set_option maxHeartbeats 8000000 in
set_option maxRecDepth 100000 in
theorem box_Of_1.calls (a0 : Int) (r : Int) (w : World) (h : box_Of_1.f a0 = some r) :
  Calls Try.prog 97 #[.int .i64 a0] w fun e w' => e = .returned (.int .i64 r) ∧ Below w.heap.size w w' := by
 have HB := bA (Below.refl w.heap.size w)
 have H : ((fix_Clamp.f a0 (-1099511627776) 1099511627776).bind fun t189 => (some t189)) = some r := h
 clear h
 replace H := Option.bind_eq_some_iff.mp H
 obtain ⟨t189, A20, H⟩ := H
 have A2 := bA A20
 clear A20
 obtain rfl := Option.some.inj H
 go_enter Try.func97, Try.ntmps97
 go_wp2_with (first | ((first | ((with_reducible refine gate_callee (f := 96) rfl ?_); refine bC (some 4) Try.func96 #[.int .i64 a0, .int .i64 (-1099511627776), .int .i64 1099511627776] ?_) | go_at_call 96); (with_reducible refine (fix_Clamp.calls a0 (-1099511627776) 1099511627776 t189 _ A2.out).mono ?_); rintro e w' ⟨rfl, ⟨nd, rfl⟩⟩; (first | refine ⟨_, rfl, ?_⟩ | skip)))
 go_ret
 exact bF
/-! ### box_Of: function 52 -/
def box_Of.f (a0_0 : Int) (a0_1 : Int) (a1 : Int) : Option (Int × Int × Int × Int) := (point_Right.f a0_0 a0_1).bind fun t192 => (if t192 = true then ((fix_Clamp.f a1 0 4398046511104).bind fun t193 => ((box_Of_1.f (wrap64 (a0_0 - t193))).bind fun t194 => ((box_Of_1.f (wrap64 (a0_1 - t193))).bind fun t195 => ((box_Of_1.f (wrap64 (a0_0 + t193))).bind fun t196 => ((box_Of_1.f (wrap64 (a0_1 + t193))).bind fun t197 => (some (t194, t195, t196, t197))))))) else (some (0, 0, 0, 0)))
def box_Of.T5 : Bool × List (List Nat × List Nat) := (true, [([], []), ([], []), ([1], [1]), ([], []), ([2, 3], [2, 3]), ([0, 4], [0, 4]), ([], []), ([], []), ([7], [7]), ([], []), ([8, 9], [8, 9]), ([6, 10, 5], [6, 10]), ([5, 11], [5, 11]), ([0, 1, 2, 3, 4, 5, 6, 7, 8, 9, 10, 11, 12], []), ([13, 12, 11, 0, 1, 2, 3, 4, 5, 6, 7, 8, 9, 10, 11, 12], [12, 13])])
def box_Of.B5 : List Nat := [0, 0, 2, 0, 14, 31, 0, 0, 128, 0, 896, 2047, 4095, 8191, 16383]
theorem box_Of.tab5 : rtab .any (opsOf Try.f52 5) = box_Of.T5 := by kernel_rfl
theorem box_Of.bits5 : waitsOk box_Of.T5.2 box_Of.B5 = true := by kernel_rfl
def box_Of.T6 : Bool × List (List Nat × List Nat) := (true, [([], []), ([], []), ([1], [1]), ([], []), ([2, 3], [2, 3]), ([0, 4], [0, 4]), ([], []), ([], []), ([7], [7]), ([], []), ([8, 9], [8, 9]), ([6, 10, 5], [6, 10]), ([5, 11], [5, 11]), ([0, 1, 2, 3, 4, 5, 6, 7, 8, 9, 10, 11, 12], []), ([13, 12, 11, 0, 1, 2, 3, 4, 5, 6, 7, 8, 9, 10, 11, 12], [12, 13])])
def box_Of.B6 : List Nat := [0, 0, 2, 0, 14, 31, 0, 0, 128, 0, 896, 2047, 4095, 8191, 16383]
theorem box_Of.tab6 : rtab .any (opsOf Try.f52 6) = box_Of.T6 := by kernel_rfl
theorem box_Of.bits6 : waitsOk box_Of.T6.2 box_Of.B6 = true := by kernel_rfl
set_option maxHeartbeats 8000000 in
set_option maxRecDepth 100000 in
theorem box_Of.calls (a0_0 : Int) (a0_1 : Int) (a1 : Int) (r1 : Int) (r2 : Int) (r3 : Int) (r4 : Int) (w : World) (h : box_Of.f a0_0 a0_1 a1 = some (r1, r2, r3, r4)) :
  Calls Try.prog 52 #[.agg #[.int .i64 a0_0, .int .i64 a0_1], .int .i64 a1] w fun e w' => e = .returned (.agg #[.int .i64 r1, .int .i64 r2, .int .i64 r3, .int .i64 r4]) ∧ Below w.heap.size w w' := by
 have hu41 := Try.underlying41
 have hu44 := Try.underlying44
 have HB := bA (Below.refl w.heap.size w)
 have H : ((point_Right.f a0_0 a0_1).bind fun t192 => (if t192 = true then ((fix_Clamp.f a1 0 4398046511104).bind fun t193 => ((box_Of_1.f (wrap64 (a0_0 - t193))).bind fun t194 => ((box_Of_1.f (wrap64 (a0_1 - t193))).bind fun t195 => ((box_Of_1.f (wrap64 (a0_0 + t193))).bind fun t196 => ((box_Of_1.f (wrap64 (a0_1 + t193))).bind fun t197 => (some (t194, t195, t196, t197))))))) else (some (0, 0, 0, 0)))) = some (r1, r2, r3, r4) := h
 clear h
 replace H := Option.bind_eq_some_iff.mp H
 obtain ⟨t192, A30, H⟩ := H
 have A3 := bA A30
 clear A30
 by_cases c4 : t192 = true
 rotate_left
 ·replace c4 := Bool.eq_false_iff.mpr c4
  subst c4
  rw [if_neg bn] at H
  simp only [Option.some.injEq, Prod.mk.injEq] at H
  obtain ⟨rfl, rfl, rfl, rfl⟩ := H
  go_enter Try.func52, Try.ntmps52
  go_wp2_with (first | ((with_reducible refine gate_dst (N := 2) rfl ?_); refine bE (N := 2) (cs := #[.int .i64 a0_0, .int .i64 a0_1]) (t := 41) ?_; intro gb190 hg w27 hbox hb; have BK190 := bA (hbox); have GW190 := bA (bZ hg); have GE190 := bA (bZ hg); replace HB := bA (bS hb); clear hb hbox hg) | ((with_reducible refine gate_dst (N := 4) rfl ?_); refine bE (N := 4) (cs := #[.int .i64 0, .int .i64 0, .int .i64 0, .int .i64 0]) (t := 44) ?_; intro gb191 hg w28 hbox hb; have BK191 := bA (hbox); have GW191 := bA (bZ hg); have GE191 := bA (bZ hg); have NB190_191 := bA (bL BK190 hg); have NB191_190 := bA (bG BK190 hg); replace BK190 := bA (bB BK190 hb); replace HB := bA (bS hb); clear hb hbox hg; have hnb29 := NB190_191.out; have hnc29 := NB191_190.out; obtain ⟨hcz30_0, hcz30_1, hfz30_0, hfz30_1⟩ := bc2 BK190) | ((first | ((with_reducible refine gate_callee (f := 67) rfl ?_); refine bC (some 7) Try.func67 #[.agg #[.int .i64 a0_0, .int .i64 a0_1]] ?_) | go_at_call 67); (with_reducible refine (point_Right.calls a0_0 a0_1 false _ A3.out).mono ?_); rintro e w31 ⟨rfl, hb⟩; (first | refine ⟨_, rfl, ?_⟩ | skip); replace BK190 := bA (bB BK190 hb); replace BK191 := bA (bB BK191 hb); replace HB := bA (bS hb); (try clear hb); obtain ⟨hcz32_0, hcz32_1, hcz32_2, hcz32_3, hfz32_0, hfz32_1, hfz32_2, hfz32_3⟩ := bc4 BK191))
  refine bodyPost_ret (results_cell_row rfl _ _ gb191 44 #[.int .i64 0, .int .i64 0, .int .i64 0, .int .i64 0] (0, 0) _ rfl (by (with_reducible repeat (first | refine blk_drewN ?_ _ | refine blk_drew ?_ | refine blk_alloc ?_ _)); refine blk_put (cs := #[.int .i64 0, .int .i64 0, .int .i64 0, .int .i64 0]) ?_ 3 _ rfl; (with_reducible repeat (first | refine blk_drewN ?_ _ | refine blk_drew ?_ | refine blk_alloc ?_ _)); refine blk_put (cs := #[.int .i64 0, .int .i64 0, .int .i64 0, .int .i64 0]) ?_ 2 _ rfl; (with_reducible repeat (first | refine blk_drewN ?_ _ | refine blk_drew ?_ | refine blk_alloc ?_ _)); refine blk_put (cs := #[.int .i64 0, .int .i64 0, .int .i64 0, .int .i64 0]) ?_ 1 _ rfl; (with_reducible repeat (first | refine blk_drewN ?_ _ | refine blk_drew ?_ | refine blk_alloc ?_ _)); refine blk_put (cs := #[.int .i64 0, .int .i64 0, .int .i64 0, .int .i64 0]) ?_ 0 _ rfl; (with_reducible repeat (first | refine blk_drewN ?_ _ | refine blk_drew ?_ | refine blk_alloc ?_ _)); exact BK191.out) Try.underlying44 rfl (by kernel_rfl)) rfl ?_
  exact bF
 subst c4
 rw [if_pos rfl] at H
 replace H := Option.bind_eq_some_iff.mp H
 obtain ⟨t193, A50, H⟩ := H
 have A5 := bA A50
 clear A50
 replace H := Option.bind_eq_some_iff.mp H
 obtain ⟨t194, A60, H⟩ := H
 have A6 := bA A60
 clear A60
 replace H := Option.bind_eq_some_iff.mp H
 obtain ⟨t195, A70, H⟩ := H
 have A7 := bA A70
 clear A70
 replace H := Option.bind_eq_some_iff.mp H
 obtain ⟨t196, A80, H⟩ := H
 have A8 := bA A80
 clear A80
 replace H := Option.bind_eq_some_iff.mp H
 obtain ⟨t197, A90, H⟩ := H
 have A9 := bA A90
 clear A90
 simp only [Option.some.injEq, Prod.mk.injEq] at H
 obtain ⟨rfl, rfl, rfl, rfl⟩ := H
 go_enter Try.func52, Try.ntmps52
 try go_wp2_with (first | ((with_reducible refine gate_dst (N := 2) rfl ?_); refine bE (N := 2) (cs := #[.int .i64 a0_0, .int .i64 a0_1]) (t := 41) ?_; intro gb190 hg w10 hbox hb; have BK190 := bA (hbox); have GW190 := bA (bZ hg); have GE190 := bA (bZ hg); replace HB := bA (bS hb); clear hb hbox hg) | ((with_reducible refine gate_dst (N := 4) rfl ?_); refine bE (N := 4) (cs := #[.int .i64 0, .int .i64 0, .int .i64 0, .int .i64 0]) (t := 44) ?_; intro gb191 hg w11 hbox hb; have BK191 := bA (hbox); have GW191 := bA (bZ hg); have GE191 := bA (bZ hg); have NB190_191 := bA (bL BK190 hg); have NB191_190 := bA (bG BK190 hg); replace BK190 := bA (bB BK190 hb); replace HB := bA (bS hb); clear hb hbox hg; have hnb12 := NB190_191.out; have hnc12 := NB191_190.out; obtain ⟨hcz13_0, hcz13_1, hfz13_0, hfz13_1⟩ := bc2 BK190) | ((first | ((with_reducible refine gate_callee (f := 67) rfl ?_); refine bC (some 7) Try.func67 #[.agg #[.int .i64 a0_0, .int .i64 a0_1]] ?_) | go_at_call 67); (with_reducible refine (point_Right.calls a0_0 a0_1 true _ A3.out).mono ?_); rintro e w14 ⟨rfl, hb⟩; (first | refine ⟨_, rfl, ?_⟩ | skip); replace BK190 := bA (bB BK190 hb); replace BK191 := bA (bB BK191 hb); replace HB := bA (bS hb); (try clear hb)) | ((first | ((with_reducible refine gate_callee (f := 96) rfl ?_); refine bC (some 11) Try.func96 #[.int .i64 a1, .int .i64 0, .int .i64 4398046511104] ?_) | go_at_call 96); (with_reducible refine (fix_Clamp.calls a1 0 4398046511104 t193 _ A5.out).mono ?_); rintro e w' ⟨rfl, ⟨nd, rfl⟩⟩; (first | refine ⟨_, rfl, ?_⟩ | skip); (try (rw [drewN_self w14]; generalize hq_ : World.drewN w14 _ = w14; have n0_ : Aside0 (w14.heap[gb190]? = some (.cells #[.int .i64 a0_0, .int .i64 a0_1] 41 (0, 0))) := ⟨by rw [← hq_]; exact (bP BK190)⟩; have n1_ : Aside0 (w14.heap[gb191]? = some (.cells #[.int .i64 0, .int .i64 0, .int .i64 0, .int .i64 0] 44 (0, 0))) := ⟨by rw [← hq_]; exact (bP BK191)⟩; have n2_ : Aside0 (Below w.heap.size w w14) := ⟨by rw [← hq_]; exact bX⟩; clear BK190 BK191 HB hq_; have BK190 := n0_; have BK191 := n1_; have HB := n2_; clear n0_ n1_ n2_))))
 replace BK190 := bA (blk_drew BK190.out)
 replace BK191 := bA (blk_drew BK191.out)
 replace HB := bA (below_drew1 HB.out)
 refine start_ (n := 15) (S := fun w' => w'.cell? ⟨gb190, 0, none⟩ = some (.int .i64 a0_0) ∧ w'.cell? ⟨gb190, 1, none⟩ = some (.int .i64 a0_1)) (ds := []) #[false,false,false,false,false,false,false,false,false,false,false,false,false,false,false] (by kernel_rfl) rfl rfl ⟨bq BK190 0, bq BK190 1⟩ (fun hHeld => ?_); refine with_tabW box_Of.tab5 box_Of.bits5 (fun HT_ HW_ => ?_)
 generalize w14.drew = w15 at BK190 BK191 HB hHeld ⊢
 refine bU (i := 0) (N := some 12) ?_
 refine bU (i := 1) (N := some 13) ?_
 refine bU (i := 3) (N := some 15) ?_
 refine bU (i := 6) (N := some 18) ?_
 refine bU (i := 7) (N := some 19) ?_
 refine bU (i := 9) (N := some 21) ?_
 refine bW (i := 2) (N := some 14) hHeld ?_
 refine bU (i := 4) (N := some 16) ?_
 refine bW (i := 8) (N := some 20) hHeld ?_
 refine bU (i := 10) (N := some 22) ?_
 refine one_ (i := 5) (N := some 17) #[true,true,true,true,true,true,true,true,true,true,true,false,false,false,false] rfl rfl (one_of HT_.out (by kernel_rfl)) (by decide) (fun K hK => ?_)
 refine goesT_ Try.func97 (by kernel_rfl) rfl #[.int .i64 (wrap64 (a0_0 - t193))] (by rfl) rfl rfl (by rfl) (by first | rfl | (simp only [List.map_toArray, List.map_cons, List.map_nil, List.append_toArray, List.cons_append, List.nil_append]; rfl)) ?_
 with_reducible refine (box_Of_1.calls (wrap64 (a0_0 - t193)) t194 _ A6.out).mono ?_
 rintro e w16 ⟨rfl, hb⟩
 refine ⟨_, rfl, ?_⟩
 replace BK190 := bA (bB BK190 hb)
 replace BK191 := bA (bB BK191 hb)
 replace HB := bA (bS hb)
 (try clear hb)
 refine hK.out _ _ ⟨bq BK190 0, bq BK190 1⟩ (fun hHeld => ?_)
 clear hK K
 refine bH ?_
 refine one_ (i := 11) (N := some 23) #[true,true,true,true,true,true,true,true,true,true,true,true,false,false,false] rfl rfl (one_of HT_.out (by kernel_rfl)) (by decide) (fun K hK => ?_)
 refine goesT_ Try.func97 (by kernel_rfl) rfl #[.int .i64 (wrap64 (a0_1 - t193))] (by rfl) rfl rfl (by rfl) (by first | rfl | (simp only [List.map_toArray, List.map_cons, List.map_nil, List.append_toArray, List.cons_append, List.nil_append]; rfl)) ?_
 with_reducible refine (box_Of_1.calls (wrap64 (a0_1 - t193)) t195 _ A7.out).mono ?_
 rintro e w17 ⟨rfl, hb⟩
 refine ⟨_, rfl, ?_⟩
 replace BK190 := bA (bB BK190 hb)
 replace BK191 := bA (bB BK191 hb)
 replace HB := bA (bS hb)
 (try clear hb)
 refine hK.out _ _ ⟨bq BK190 0, bq BK190 1⟩ (fun hHeld => ?_)
 clear hK K
 refine bH ?_
 refine bU (i := 12) (N := some 24) ?_
 refine bU (i := 13) (N := some 25) ?_
 refine one_ (i := 14) (N := none) #[true,true,true,true,true,true,true,true,true,true,true,true,true,true,true] rfl rfl (one_of HT_.out (by kernel_rfl)) (by decide) (fun K hK => ?_)
 have hs18 : w17.cell? ⟨gb191, 0, none⟩ = some (.int .i64 0) := bq BK191 0
 have hfs18 := blk_frozen BK191.out 0
 have hns18_0 := NB190_191.out
 have hms18_0 := NB191_190.out
 have hs19 : w17.cell? ⟨gb191, 1, none⟩ = some (.int .i64 0) := bq BK191 1
 have hfs19 := blk_frozen BK191.out 1
 have hns19_0 := NB190_191.out
 have hms19_0 := NB191_190.out
 refine skip_ (w1 := ?_) (by rfl) rfl ?_ ?_
 rotate_left
 ·go_simp
  rfl
 refine hK.out _ _ ⟨((cell_far (p := ⟨gb191, _, none⟩) NB190_191.out _).trans (((cell_far (p := ⟨gb191, _, none⟩) NB190_191.out _).trans (hHeld.1)))), ((cell_far (p := ⟨gb191, _, none⟩) NB190_191.out _).trans (((cell_far (p := ⟨gb191, _, none⟩) NB190_191.out _).trans (hHeld.2))))⟩ (fun hHeld => ?_)
 clear hK K
 refine done_ (done_of HT_.out (by kernel_rfl)) ?_
 try go_wp2
 have n0_ : Aside0 (((w17.setCell ⟨gb191, 0, none⟩ (.int .i64 t194)).setCell ⟨gb191, 1, none⟩ (.int .i64 t195)).heap[gb190]? = some (.cells #[.int .i64 a0_0, .int .i64 a0_1] 41 (0, 0))) := ⟨by (repeat ((with_reducible repeat (first | refine blk_drewN ?_ _ | refine blk_drew ?_ | refine blk_alloc ?_ _)); refine blk_far ?_ NB190_191.out _)); (with_reducible repeat (first | refine blk_drewN ?_ _ | refine blk_drew ?_ | refine blk_alloc ?_ _)); exact BK190.out⟩
 have n1_ : Aside0 (((w17.setCell ⟨gb191, 0, none⟩ (.int .i64 t194)).setCell ⟨gb191, 1, none⟩ (.int .i64 t195)).heap[gb191]? = some (.cells #[.int .i64 t194, .int .i64 t195, .int .i64 0, .int .i64 0] 44 (0, 0))) := ⟨by (with_reducible repeat (first | refine blk_drewN ?_ _ | refine blk_drew ?_ | refine blk_alloc ?_ _)); refine blk_put (cs := #[.int .i64 t194, .int .i64 0, .int .i64 0, .int .i64 0]) ?_ 1 _ rfl; (with_reducible repeat (first | refine blk_drewN ?_ _ | refine blk_drew ?_ | refine blk_alloc ?_ _)); refine blk_put (cs := #[.int .i64 0, .int .i64 0, .int .i64 0, .int .i64 0]) ?_ 0 _ rfl; (with_reducible repeat (first | refine blk_drewN ?_ _ | refine blk_drew ?_ | refine blk_alloc ?_ _)); exact BK191.out⟩
 have n2_ : Aside0 (Below w.heap.size w ((w17.setCell ⟨gb191, 0, none⟩ (.int .i64 t194)).setCell ⟨gb191, 1, none⟩ (.int .i64 t195))) := ⟨bX⟩
 (try clear BK190)
 (try clear BK191)
 (try clear HB)
 generalize ((w17.setCell ⟨gb191, 0, none⟩ (.int .i64 t194)).setCell ⟨gb191, 1, none⟩ (.int .i64 t195)) = w20 at n0_ n1_ n2_ ⊢
 have BK190 := n0_
 have BK191 := n1_
 have HB := n2_
 clear n0_ n1_ n2_
 replace BK190 := bA (blk_drew BK190.out)
 replace BK191 := bA (blk_drew BK191.out)
 replace HB := bA (below_drew1 HB.out)
 refine start_ (n := 15) (S := fun w' => w'.cell? ⟨gb190, 0, none⟩ = some (.int .i64 a0_0) ∧ w'.cell? ⟨gb190, 1, none⟩ = some (.int .i64 a0_1)) (ds := []) #[false,false,false,false,false,false,false,false,false,false,false,false,false,false,false] (by kernel_rfl) rfl rfl ⟨bq BK190 0, bq BK190 1⟩ (fun hHeld => ?_); refine with_tabW box_Of.tab6 box_Of.bits6 (fun HT_ HW_ => ?_)
 generalize w20.drew = w21 at BK190 BK191 HB hHeld ⊢
 refine bU (i := 0) (N := some 26) ?_
 refine bU (i := 1) (N := some 27) ?_
 refine bU (i := 3) (N := some 29) ?_
 refine bU (i := 6) (N := some 32) ?_
 refine bU (i := 7) (N := some 33) ?_
 refine bU (i := 9) (N := some 35) ?_
 refine bW (i := 2) (N := some 28) hHeld ?_
 refine bU (i := 4) (N := some 30) ?_
 refine bW (i := 8) (N := some 34) hHeld ?_
 refine bU (i := 10) (N := some 36) ?_
 refine one_ (i := 5) (N := some 31) #[true,true,true,true,true,true,true,true,true,true,true,false,false,false,false] rfl rfl (one_of HT_.out (by kernel_rfl)) (by decide) (fun K hK => ?_)
 refine goesT_ Try.func97 (by kernel_rfl) rfl #[.int .i64 (wrap64 (a0_0 + t193))] (by rfl) rfl rfl (by rfl) (by first | rfl | (simp only [List.map_toArray, List.map_cons, List.map_nil, List.append_toArray, List.cons_append, List.nil_append]; rfl)) ?_
 with_reducible refine (box_Of_1.calls (wrap64 (a0_0 + t193)) t196 _ A8.out).mono ?_
 rintro e w22 ⟨rfl, hb⟩
 refine ⟨_, rfl, ?_⟩
 replace BK190 := bA (bB BK190 hb)
 replace BK191 := bA (bB BK191 hb)
 replace HB := bA (bS hb)
 (try clear hb)
 refine hK.out _ _ ⟨bq BK190 0, bq BK190 1⟩ (fun hHeld => ?_)
 clear hK K
 refine bH ?_
 refine one_ (i := 11) (N := some 37) #[true,true,true,true,true,true,true,true,true,true,true,true,false,false,false] rfl rfl (one_of HT_.out (by kernel_rfl)) (by decide) (fun K hK => ?_)
 refine goesT_ Try.func97 (by kernel_rfl) rfl #[.int .i64 (wrap64 (a0_1 + t193))] (by rfl) rfl rfl (by rfl) (by first | rfl | (simp only [List.map_toArray, List.map_cons, List.map_nil, List.append_toArray, List.cons_append, List.nil_append]; rfl)) ?_
 with_reducible refine (box_Of_1.calls (wrap64 (a0_1 + t193)) t197 _ A9.out).mono ?_
 rintro e w23 ⟨rfl, hb⟩
 refine ⟨_, rfl, ?_⟩
 replace BK190 := bA (bB BK190 hb)
 replace BK191 := bA (bB BK191 hb)
 replace HB := bA (bS hb)
 (try clear hb)
 refine hK.out _ _ ⟨bq BK190 0, bq BK190 1⟩ (fun hHeld => ?_)
 clear hK K
 refine bH ?_
 refine bU (i := 12) (N := some 38) ?_
 refine bU (i := 13) (N := some 39) ?_
 refine one_ (i := 14) (N := none) #[true,true,true,true,true,true,true,true,true,true,true,true,true,true,true] rfl rfl (one_of HT_.out (by kernel_rfl)) (by decide) (fun K hK => ?_)
 have hs24 : w23.cell? ⟨gb191, 2, none⟩ = some (.int .i64 0) := bq BK191 2
 have hfs24 := blk_frozen BK191.out 2
 have hns24_0 := NB190_191.out
 have hms24_0 := NB191_190.out
 have hs25 : w23.cell? ⟨gb191, 3, none⟩ = some (.int .i64 0) := bq BK191 3
 have hfs25 := blk_frozen BK191.out 3
 have hns25_0 := NB190_191.out
 have hms25_0 := NB191_190.out
 refine skip_ (w1 := ?_) (by rfl) rfl ?_ ?_
 rotate_left
 ·go_simp
  rfl
 refine hK.out _ _ ⟨((cell_far (p := ⟨gb191, _, none⟩) NB190_191.out _).trans (((cell_far (p := ⟨gb191, _, none⟩) NB190_191.out _).trans (hHeld.1)))), ((cell_far (p := ⟨gb191, _, none⟩) NB190_191.out _).trans (((cell_far (p := ⟨gb191, _, none⟩) NB190_191.out _).trans (hHeld.2))))⟩ (fun hHeld => ?_)
 clear hK K
 refine done_ (done_of HT_.out (by kernel_rfl)) ?_
 obtain ⟨hcz26_0, hcz26_1, hcz26_2, hcz26_3, hfz26_0, hfz26_1, hfz26_2, hfz26_3⟩ := bc4 BK191
 try go_wp2
 refine bodyPost_ret (results_cell_row rfl _ _ gb191 44 #[.int .i64 t194, .int .i64 t195, .int .i64 t196, .int .i64 t197] (0, 0) _ rfl (by (with_reducible repeat (first | refine blk_drewN ?_ _ | refine blk_drew ?_ | refine blk_alloc ?_ _)); refine blk_put (cs := #[.int .i64 t194, .int .i64 t195, .int .i64 t196, .int .i64 t197]) ?_ 3 _ rfl; (with_reducible repeat (first | refine blk_drewN ?_ _ | refine blk_drew ?_ | refine blk_alloc ?_ _)); refine blk_put (cs := #[.int .i64 t194, .int .i64 t195, .int .i64 t196, .int .i64 t197]) ?_ 2 _ rfl; (with_reducible repeat (first | refine blk_drewN ?_ _ | refine blk_drew ?_ | refine blk_alloc ?_ _)); refine blk_put (cs := #[.int .i64 t194, .int .i64 t195, .int .i64 t196, .int .i64 t197]) ?_ 1 _ rfl; (with_reducible repeat (first | refine blk_drewN ?_ _ | refine blk_drew ?_ | refine blk_alloc ?_ _)); refine blk_put (cs := #[.int .i64 t194, .int .i64 t195, .int .i64 t196, .int .i64 t197]) ?_ 0 _ rfl; (with_reducible repeat (first | refine blk_drewN ?_ _ | refine blk_drew ?_ | refine blk_alloc ?_ _)); refine blk_put (cs := #[.int .i64 t194, .int .i64 t195, .int .i64 t196, .int .i64 0]) ?_ 3 _ rfl; (with_reducible repeat (first | refine blk_drewN ?_ _ | refine blk_drew ?_ | refine blk_alloc ?_ _)); refine blk_put (cs := #[.int .i64 t194, .int .i64 t195, .int .i64 0, .int .i64 0]) ?_ 2 _ rfl; (with_reducible repeat (first | refine blk_drewN ?_ _ | refine blk_drew ?_ | refine blk_alloc ?_ _)); exact BK191.out) Try.underlying44 rfl (by kernel_rfl)) rfl ?_
 exact bF
/-! ### box_Has: function 46 -/
def box_Has.f (a0_0 : Int) (a0_1 : Int) (a0_2 : Int) (a0_3 : Int) (a1_0 : Int) (a1_1 : Int) : Option (Bool) := (box_Right.f a0_0 a0_1 a0_2 a0_3).bind fun t200 => (if t200 = true then ((point_Right.f a1_0 a1_1).bind fun t201 => (if t201 = true then (if a0_0 ≤ a1_0 then (if a1_0 ≤ a0_2 then (if a0_1 ≤ a1_1 then (some (decide (a1_1 ≤ a0_3))) else (some false)) else (some false)) else (some false)) else (some false))) else (some false))
set_option maxHeartbeats 8000000 in
set_option maxRecDepth 100000 in
theorem box_Has.calls (a0_0 : Int) (a0_1 : Int) (a0_2 : Int) (a0_3 : Int) (a1_0 : Int) (a1_1 : Int) (r : Bool) (w : World) (h : box_Has.f a0_0 a0_1 a0_2 a0_3 a1_0 a1_1 = some r) :
  Calls Try.prog 46 #[.agg #[.int .i64 a0_0, .int .i64 a0_1, .int .i64 a0_2, .int .i64 a0_3], .agg #[.int .i64 a1_0, .int .i64 a1_1]] w fun e w' => e = .returned (.bool r) ∧ Below w.heap.size w w' := by
 have hu44 := Try.underlying44
 have hu41 := Try.underlying41
 have HB := bA (Below.refl w.heap.size w)
 have H : ((box_Right.f a0_0 a0_1 a0_2 a0_3).bind fun t200 => (if t200 = true then ((point_Right.f a1_0 a1_1).bind fun t201 => (if t201 = true then (if a0_0 ≤ a1_0 then (if a1_0 ≤ a0_2 then (if a0_1 ≤ a1_1 then (some (decide (a1_1 ≤ a0_3))) else (some false)) else (some false)) else (some false)) else (some false))) else (some false))) = some r := h
 clear h
 replace H := Option.bind_eq_some_iff.mp H
 obtain ⟨t200, A30, H⟩ := H
 have A3 := bA A30
 clear A30
 by_cases c4 : t200 = true
 subst c4
 rw [if_pos rfl] at H
 replace H := Option.bind_eq_some_iff.mp H
 obtain ⟨t201, A50, H⟩ := H
 have A5 := bA A50
 clear A50
 by_cases c6 : t201 = true
 subst c6
 rw [if_pos rfl] at H
 by_cases c7 : a0_0 ≤ a1_0
 rw [if_pos c7] at H
 have c7b0 : decide (a0_0 ≤ a1_0) = true := decide_eq_true c7
 clear c7
 by_cases c8 : a1_0 ≤ a0_2
 rw [if_pos c8] at H
 have c8b0 : decide (a1_0 ≤ a0_2) = true := decide_eq_true c8
 clear c8
 by_cases c9 : a0_1 ≤ a1_1
 rw [if_pos c9] at H
 have c9b0 : decide (a0_1 ≤ a1_1) = true := decide_eq_true c9
 clear c9
 obtain rfl := Option.some.inj H
 rotate_left
 rw [if_neg c9] at H
 have c9b0 : decide (a0_1 ≤ a1_1) = false := decide_eq_false c9
 clear c9
 obtain rfl := Option.some.inj H
 rotate_left
 rw [if_neg c8] at H
 have c8b0 : decide (a1_0 ≤ a0_2) = false := decide_eq_false c8
 clear c8
 obtain rfl := Option.some.inj H
 rotate_left
 rw [if_neg c7] at H
 have c7b0 : decide (a0_0 ≤ a1_0) = false := decide_eq_false c7
 clear c7
 obtain rfl := Option.some.inj H
 rotate_left
 replace c6 := Bool.eq_false_iff.mpr c6
 subst c6
 rw [if_neg bn] at H
 obtain rfl := Option.some.inj H
 rotate_left
 replace c4 := Bool.eq_false_iff.mpr c4
 subst c4
 rw [if_neg bn] at H
 obtain rfl := Option.some.inj H
 rotate_left
 all_goals go_enter Try.func46, Try.ntmps46
 all_goals go_wp2_with (first | ((with_reducible refine gate_dst (N := 2) rfl ?_); refine bE (N := 2) (cs := #[.int .i64 a0_0, .int .i64 a0_1, .int .i64 a0_2, .int .i64 a0_3]) (t := 44) ?_; intro gb198 hg wz0 hbox hb; have BK198 := bA (hbox); have GW198 := bA (bZ hg); have GE198 := bA (bZ hg); replace HB := bA (bS hb); clear hb hbox hg) | ((with_reducible refine gate_dst (N := 3) rfl ?_); refine bE (N := 3) (cs := #[.int .i64 a1_0, .int .i64 a1_1]) (t := 41) ?_; intro gb199 hg wz1 hbox hb; have BK199 := bA (hbox); have GW199 := bA (bZ hg); have GE199 := bA (bZ hg); have NB198_199 := bA (bL BK198 hg); have NB199_198 := bA (bG BK198 hg); replace BK198 := bA (bB BK198 hb); replace HB := bA (bS hb); clear hb hbox hg; have hz1 := NB198_199.out; have hz2 := NB199_198.out; obtain ⟨hz3, hz4, hz5, hz6, hz7, hz8, hz9, hz10⟩ := bc4 BK198) | ((first | ((with_reducible refine gate_callee (f := 87) rfl ?_); refine bC (some 6) Try.func87 #[.agg #[.int .i64 a0_0, .int .i64 a0_1, .int .i64 a0_2, .int .i64 a0_3]] ?_) | go_at_call 87); (with_reducible refine (box_Right.calls a0_0 a0_1 a0_2 a0_3 true _ A3.out).mono ?_); rintro e wz2 ⟨rfl, hb⟩; (first | refine ⟨_, rfl, ?_⟩ | skip); replace BK198 := bA (bB BK198 hb); replace BK199 := bA (bB BK199 hb); replace HB := bA (bS hb); (try clear hb); obtain ⟨hz11, hz12, hz13, hz14⟩ := bc2 BK199) | (go_at_call 67; (with_reducible refine (point_Right.calls a1_0 a1_1 true _ A5.out).mono ?_); rintro e wz3 ⟨rfl, hb⟩; replace BK198 := bA (bB BK198 hb); replace BK199 := bA (bB BK199 hb); replace HB := bA (bS hb); (try clear hb); obtain ⟨hz15, hz16, hz17, hz18, hz7, hz8, hz9, hz10⟩ := bc4 BK198; obtain ⟨hz19, hz20, hz13, hz14⟩ := bc2 BK199) | (go_at_call 67; (with_reducible refine (point_Right.calls a1_0 a1_1 false _ A5.out).mono ?_); rintro e wz3 ⟨rfl, hb⟩; replace BK198 := bA (bB BK198 hb); replace BK199 := bA (bB BK199 hb); replace HB := bA (bS hb); (try clear hb)) | ((first | ((with_reducible refine gate_callee (f := 87) rfl ?_); refine bC (some 6) Try.func87 #[.agg #[.int .i64 a0_0, .int .i64 a0_1, .int .i64 a0_2, .int .i64 a0_3]] ?_) | go_at_call 87); (with_reducible refine (box_Right.calls a0_0 a0_1 a0_2 a0_3 false _ A3.out).mono ?_); rintro e wz2 ⟨rfl, hb⟩; (first | refine ⟨_, rfl, ?_⟩ | skip); replace BK198 := bA (bB BK198 hb); replace BK199 := bA (bB BK199 hb); replace HB := bA (bS hb); (try clear hb)))
 all_goals (go_ret; exact bF)
/-! ### box_In: function 51 -/
def box_In.f (a0_0 : Int) (a0_1 : Int) (a0_2 : Int) (a0_3 : Int) (a1_0 : Int) (a1_1 : Int) (a1_2 : Int) (a1_3 : Int) : Option (Bool) := (box_Right.f a0_0 a0_1 a0_2 a0_3).bind fun t204 => (if t204 = true then ((box_Has.f a1_0 a1_1 a1_2 a1_3 a0_0 a0_1).bind fun t205 => (if t205 = true then ((box_Has.f a1_0 a1_1 a1_2 a1_3 a0_2 a0_3).bind fun t206 => (some t206)) else (some false))) else (some false))
set_option maxHeartbeats 8000000 in
set_option maxRecDepth 100000 in
theorem box_In.calls (a0_0 : Int) (a0_1 : Int) (a0_2 : Int) (a0_3 : Int) (a1_0 : Int) (a1_1 : Int) (a1_2 : Int) (a1_3 : Int) (r : Bool) (w : World) (h : box_In.f a0_0 a0_1 a0_2 a0_3 a1_0 a1_1 a1_2 a1_3 = some r) :
  Calls Try.prog 51 #[.agg #[.int .i64 a0_0, .int .i64 a0_1, .int .i64 a0_2, .int .i64 a0_3], .agg #[.int .i64 a1_0, .int .i64 a1_1, .int .i64 a1_2, .int .i64 a1_3]] w fun e w' => e = .returned (.bool r) ∧ Below w.heap.size w w' := by
 have hu44 := Try.underlying44
 have hu41 := Try.underlying41
 have HB := bA (Below.refl w.heap.size w)
 have H : ((box_Right.f a0_0 a0_1 a0_2 a0_3).bind fun t204 => (if t204 = true then ((box_Has.f a1_0 a1_1 a1_2 a1_3 a0_0 a0_1).bind fun t205 => (if t205 = true then ((box_Has.f a1_0 a1_1 a1_2 a1_3 a0_2 a0_3).bind fun t206 => (some t206)) else (some false))) else (some false))) = some r := h
 clear h
 replace H := Option.bind_eq_some_iff.mp H
 obtain ⟨t204, A30, H⟩ := H
 have A3 := bA A30
 clear A30
 by_cases c4 : t204 = true
 subst c4
 rw [if_pos rfl] at H
 replace H := Option.bind_eq_some_iff.mp H
 obtain ⟨t205, A50, H⟩ := H
 have A5 := bA A50
 clear A50
 by_cases c6 : t205 = true
 subst c6
 rw [if_pos rfl] at H
 replace H := Option.bind_eq_some_iff.mp H
 obtain ⟨t206, A70, H⟩ := H
 have A7 := bA A70
 clear A70
 obtain rfl := Option.some.inj H
 rotate_left
 replace c6 := Bool.eq_false_iff.mpr c6
 subst c6
 rw [if_neg bn] at H
 obtain rfl := Option.some.inj H
 rotate_left
 replace c4 := Bool.eq_false_iff.mpr c4
 subst c4
 rw [if_neg bn] at H
 obtain rfl := Option.some.inj H
 rotate_left
 all_goals go_enter Try.func51, Try.ntmps51
 all_goals go_wp2_with (first | ((with_reducible refine gate_dst (N := 2) rfl ?_); refine bE (N := 2) (cs := #[.int .i64 a0_0, .int .i64 a0_1, .int .i64 a0_2, .int .i64 a0_3]) (t := 44) ?_; intro gb202 hg wz0 hbox hb; have BK202 := bA (hbox); have GW202 := bA (bZ hg); have GE202 := bA (bZ hg); replace HB := bA (bS hb); clear hb hbox hg) | ((with_reducible refine gate_dst (N := 3) rfl ?_); refine bE (N := 3) (cs := #[.int .i64 a1_0, .int .i64 a1_1, .int .i64 a1_2, .int .i64 a1_3]) (t := 44) ?_; intro gb203 hg wz1 hbox hb; have BK203 := bA (hbox); have GW203 := bA (bZ hg); have GE203 := bA (bZ hg); have NB202_203 := bA (bL BK202 hg); have NB203_202 := bA (bG BK202 hg); replace BK202 := bA (bB BK202 hb); replace HB := bA (bS hb); clear hb hbox hg; have hz1 := NB202_203.out; have hz2 := NB203_202.out; obtain ⟨hz3, hz4, hz5, hz6, hz7, hz8, hz9, hz10⟩ := bc4 BK202) | ((first | ((with_reducible refine gate_callee (f := 87) rfl ?_); refine bC (some 6) Try.func87 #[.agg #[.int .i64 a0_0, .int .i64 a0_1, .int .i64 a0_2, .int .i64 a0_3]] ?_) | go_at_call 87); (with_reducible refine (box_Right.calls a0_0 a0_1 a0_2 a0_3 true _ A3.out).mono ?_); rintro e wz2 ⟨rfl, hb⟩; (first | refine ⟨_, rfl, ?_⟩ | skip); replace BK202 := bA (bB BK202 hb); replace BK203 := bA (bB BK203 hb); replace HB := bA (bS hb); (try clear hb); obtain ⟨hz11, hz12, hz13, hz14, hz15, hz16, hz17, hz18⟩ := bc4 BK203; obtain ⟨hz19, hz20, hz21, hz22, hz7, hz8, hz9, hz10⟩ := bc4 BK202) | (go_at_call 46; (with_reducible refine (box_Has.calls a1_0 a1_1 a1_2 a1_3 a0_0 a0_1 true _ A5.out).mono ?_); rintro e wz3 ⟨rfl, hb⟩; replace BK202 := bA (bB BK202 hb); replace BK203 := bA (bB BK203 hb); replace HB := bA (bS hb); (try clear hb); obtain ⟨hz23, hz24, hz25, hz26, hz15, hz16, hz17, hz18⟩ := bc4 BK203; obtain ⟨hz27, hz28, hz29, hz30, hz7, hz8, hz9, hz10⟩ := bc4 BK202) | (go_at_call 46; (with_reducible refine (box_Has.calls a1_0 a1_1 a1_2 a1_3 a0_2 a0_3 t206 _ A7.out).mono ?_); rintro e wz4 ⟨rfl, hb⟩; replace BK202 := bA (bB BK202 hb); replace BK203 := bA (bB BK203 hb); replace HB := bA (bS hb); (try clear hb)) | (go_at_call 46; (with_reducible refine (box_Has.calls a1_0 a1_1 a1_2 a1_3 a0_0 a0_1 false _ A5.out).mono ?_); rintro e wz3 ⟨rfl, hb⟩; replace BK202 := bA (bB BK202 hb); replace BK203 := bA (bB BK203 hb); replace HB := bA (bS hb); (try clear hb)) | ((first | ((with_reducible refine gate_callee (f := 87) rfl ?_); refine bC (some 6) Try.func87 #[.agg #[.int .i64 a0_0, .int .i64 a0_1, .int .i64 a0_2, .int .i64 a0_3]] ?_) | go_at_call 87); (with_reducible refine (box_Right.calls a0_0 a0_1 a0_2 a0_3 false _ A3.out).mono ?_); rintro e wz2 ⟨rfl, hb⟩; (first | refine ⟨_, rfl, ?_⟩ | skip); replace BK202 := bA (bB BK202 hb); replace BK203 := bA (bB BK203 hb); replace HB := bA (bS hb); (try clear hb)))
 all_goals (go_ret; exact bF)
end Go.Proofs.Ytjmibjmlihmglaa.G
