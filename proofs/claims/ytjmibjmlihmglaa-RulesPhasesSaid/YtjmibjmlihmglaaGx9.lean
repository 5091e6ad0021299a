-- Written by a program of this session out of the translation; Lean checks it.
import Derived.Test.YtjmibjmlihmglaaGx0
import Derived.Test.YtjmibjmlihmglaaGx3
import Derived.Test.YtjmibjmlihmglaaGx8
namespace Go.Proofs.Ytjmibjmlihmglaa.G
open Go.RowKit Go.Proofs.YtjmibjmlihmglaaW.PrintWords Go.Proofs.YtjmibjmlihmglaaW.PrintLast Go.Proofs.YtjmibjmlihmglaaW.PrintMore
attribute [local go_sem] max2_int min2_int max_two min_two max_three min_three max_four min_four   -- for this text's walks alone
set_option linter.unusedVariables false
set_option linter.unusedSimpArgs false

/-! ### rules_limits: function 60 -/
def rules_limits.f (s0_1 : Int) (s0_2 : Int) (s0_3 : Int) (s0_4 : Int) (s0_5 : Int) (s0_6 : Int) (s0_7 : Int) (s0_8 : Int) : Option (Bool) := (rules_within_int.f (mn (mn s0_1 s0_2) s0_3) 1 50).bind fun t247 => (if t247 = true then ((rules_within_int.f (mx (mx s0_1 s0_2) s0_3) 1 50).bind fun t248 => (some t248)) else (some false))
def rules_limits.T1 : Bool × List (List Nat × List Nat) := (true, [([], []), ([0], [0]), ([1], [1]), ([2], [2]), ([], []), ([4], [4]), ([5], [5]), ([6], [6]), ([], []), ([8], [8]), ([9], [9]), ([10], [10]), ([3, 7, 11], [3, 7, 11]), ([12], [12]), ([13, 13], [13]), ([14], [14]), ([15, 14], [14, 15]), ([16, 14], [14, 16]), ([17, 14], [14, 17]), ([14], [14]), ([19, 14], [14, 19]), ([20, 14], [14, 20]), ([21, 14], [14, 21]), ([14], [14]), ([23, 14], [14, 23]), ([24, 14], [14, 24]), ([25, 14], [14, 25]), ([18, 22, 26, 14], [14, 18, 22, 26]), ([27, 14, 14], [14, 27]), ([14, 28], [14, 28]), ([29, 28, 0, 1, 2, 3, 4, 5, 6, 7, 8, 9, 10, 11, 12, 13, 14, 15, 16, 17, 18, 19, 20, 21, 22, 23, 24, 25, 26, 27, 28, 29], [29])])
def rules_limits.B1 : List Nat := [0, 1, 3, 7, 0, 16, 48, 112, 0, 256, 768, 1792, 4095, 8191, 16383, 32767, 65535, 131071, 262143, 32767, 557055, 1605631, 3702783, 32767, 8421375, 25198591, 58753023, 134217727, 268435455, 536870911, 1073741823]
theorem rules_limits.tab1 : rtab .any (opsOf Try.f60 1) = rules_limits.T1 := by kernel_rfl
theorem rules_limits.bits1 : waitsOk rules_limits.T1.2 rules_limits.B1 = true := by kernel_rfl
set_option maxHeartbeats 8000000 in
set_option maxRecDepth 100000 in
theorem rules_limits.calls (g : Nat) (vz0_0 : Value) (s0_1 : Int) (s0_2 : Int) (s0_3 : Int) (s0_4 : Int) (s0_5 : Int) (s0_6 : Int) (s0_7 : Int) (s0_8 : Int) (r : Bool) (w : World) (hbx : w.heap[g]? = some (.cells #[vz0_0, .int .i64 s0_1, .int .i64 s0_2, .int .i64 s0_3, .int .i64 s0_4, .int .i64 s0_5, .int .i64 s0_6, .int .i64 s0_7, .int .i64 s0_8] 24 (0, 0))) (h : rules_limits.f s0_1 s0_2 s0_3 s0_4 s0_5 s0_6 s0_7 s0_8 = some r) :
  Calls Try.prog 60 #[.pointer (some ⟨g, 0, none⟩)] w fun e w' => e = .returned (.bool r) ∧ Below w.heap.size w w' := by
 have BK0 := bA hbx
 clear hbx
 have HB := bA (Below.refl w.heap.size w)
 have H : ((rules_within_int.f (mn (mn s0_1 s0_2) s0_3) 1 50).bind fun t247 => (if t247 = true then ((rules_within_int.f (mx (mx s0_1 s0_2) s0_3) 1 50).bind fun t248 => (some t248)) else (some false))) = some r := h
 clear h
 obtain ⟨ji2, hji2⟩ : ∃ j_ : Int, (mn s0_1 s0_2) = j_ := ⟨_, rfl⟩
 replace H : ((rules_within_int.f (mn (ji2) s0_3) 1 50).bind fun t247 => (if t247 = true then ((rules_within_int.f (mx (mx s0_1 s0_2) s0_3) 1 50).bind fun t248 => (some t248)) else (some false))) = some r := by first | (rw [hji2] at H; exact H) | (simp only [hji2] at H ⊢; exact H)
 have hji2_ : (if s0_2 < s0_1 then s0_2 else s0_1) = ji2 := hji2
 obtain ⟨ji3, hji3⟩ : ∃ j_ : Int, (mn (ji2) s0_3) = j_ := ⟨_, rfl⟩
 replace H : ((rules_within_int.f (ji3) 1 50).bind fun t247 => (if t247 = true then ((rules_within_int.f (mx (mx s0_1 s0_2) s0_3) 1 50).bind fun t248 => (some t248)) else (some false))) = some r := by first | (rw [hji3] at H; exact H) | (simp only [hji3] at H ⊢; exact H)
 have hji3_ : (if s0_3 < (ji2) then s0_3 else (ji2)) = ji3 := hji3
 replace H := Option.bind_eq_some_iff.mp H
 obtain ⟨t247, A40, H⟩ := H
 have A4 := bA A40
 clear A40
 by_cases c5 : t247 = true
 ·subst c5
  rw [if_pos rfl] at H
  obtain ⟨ji6, hji6⟩ : ∃ j_ : Int, (mx s0_1 s0_2) = j_ := ⟨_, rfl⟩
  replace H : ((rules_within_int.f (mx (ji6) s0_3) 1 50).bind fun t248 => (some t248)) = some r := by first | (rw [hji6] at H; exact H) | (simp only [hji6] at H ⊢; exact H)
  (try rw [hji6] at A4)
  have hji6_ : (if s0_1 < s0_2 then s0_2 else s0_1) = ji6 := hji6
  obtain ⟨ji7, hji7⟩ : ∃ j_ : Int, (mx (ji6) s0_3) = j_ := ⟨_, rfl⟩
  replace H : ((rules_within_int.f (ji7) 1 50).bind fun t248 => (some t248)) = some r := by first | (rw [hji7] at H; exact H) | (simp only [hji7] at H ⊢; exact H)
  (try rw [hji7] at A4)
  have hji7_ : (if (ji6) < s0_3 then s0_3 else (ji6)) = ji7 := hji7
  replace H := Option.bind_eq_some_iff.mp H
  obtain ⟨t248, A80, H⟩ := H
  have A8 := bA A80
  clear A80
  obtain rfl := Option.some.inj H
  go_enter Try.func60, Try.ntmps60
  try go_wp2
  replace BK0 := bA (blk_drew BK0.out)
  replace HB := bA (below_drew1 HB.out)
  refine start_ (n := 31) (S := fun w' => w'.cell? ⟨g, 0, none⟩ = some (vz0_0) ∧ w'.cell? ⟨g, 1, none⟩ = some (.int .i64 s0_1) ∧ w'.cell? ⟨g, 2, none⟩ = some (.int .i64 s0_2) ∧ w'.cell? ⟨g, 3, none⟩ = some (.int .i64 s0_3) ∧ w'.cell? ⟨g, 4, none⟩ = some (.int .i64 s0_4) ∧ w'.cell? ⟨g, 5, none⟩ = some (.int .i64 s0_5) ∧ w'.cell? ⟨g, 6, none⟩ = some (.int .i64 s0_6) ∧ w'.cell? ⟨g, 7, none⟩ = some (.int .i64 s0_7) ∧ w'.cell? ⟨g, 8, none⟩ = some (.int .i64 s0_8)) (ds := []) #[false,false,false,false,false,false,false,false,false,false,false,false,false,false,false,false,false,false,false,false,false,false,false,false,false,false,false,false,false,false,false] (by kernel_rfl) rfl rfl ⟨bq BK0 0, bq BK0 1, bq BK0 2, bq BK0 3, bq BK0 4, bq BK0 5, bq BK0 6, bq BK0 7, bq BK0 8⟩ (fun hHeld => ?_); refine with_tabW rules_limits.tab1 rules_limits.bits1 (fun HT_ HW_ => ?_)
  generalize w.drew = w9 at BK0 HB hHeld ⊢
  refine bU (i := 0) (N := some 3) ?_
  refine bU (i := 1) (N := some 4) ?_
  refine bU (i := 2) (N := some 5) ?_
  refine bU (i := 4) (N := some 7) ?_
  refine bU (i := 5) (N := some 8) ?_
  refine bU (i := 6) (N := some 9) ?_
  refine bU (i := 8) (N := some 11) ?_
  refine bU (i := 9) (N := some 12) ?_
  refine bU (i := 10) (N := some 13) ?_
  refine bW (i := 3) (N := some 6) hHeld ?_
  refine bW (i := 7) (N := some 10) hHeld ?_
  refine bW (i := 11) (N := some 14) hHeld ?_
  refine bU (i := 12) (N := some 15) ?_
  refine one_ (i := 13) (N := some 16) #[true,true,true,true,true,true,true,true,true,true,true,true,true,true,false,false,false,false,false,false,false,false,false,false,false,false,false,false,false,false,false] rfl rfl (one_of HT_.out (by kernel_rfl)) (by decide) (fun K hK => ?_)
  refine goes_ Try.func57 (by kernel_rfl) rfl #[.int .i64 ji3, .int .i64 1, .int .i64 50] (by rfl) rfl rfl (by (try simp only [List.map_toArray, List.map_cons, List.map_nil]); first | done | (simp only [hji3]; rfl) | rfl | (simp only [List.length_drop, List.length_take]; rfl)) ?_
  with_reducible refine (rules_within_int.calls ji3 1 50 true _ A4.out).mono ?_
  rintro e w' ⟨rfl, ⟨nd, rfl⟩⟩
  refine ⟨_, rfl, ?_⟩
  refine hK.out _ _ ⟨bq BK0 0, bq BK0 1, bq BK0 2, bq BK0 3, bq BK0 4, bq BK0 5, bq BK0 6, bq BK0 7, bq BK0 8⟩ (fun hHeld => ?_)
  clear hK K
  refine bI 16 ?_
  refine bU (i := 14) (N := some 17) ?_
  refine bU (i := 15) (N := some 18) ?_
  refine bU (i := 16) (N := some 19) ?_
  refine bU (i := 17) (N := some 20) ?_
  refine bU (i := 19) (N := some 22) ?_
  refine bU (i := 20) (N := some 23) ?_
  refine bU (i := 21) (N := some 24) ?_
  refine bU (i := 23) (N := some 26) ?_
  refine bU (i := 24) (N := some 27) ?_
  refine bU (i := 25) (N := some 28) ?_
  refine bW (i := 18) (N := some 21) hHeld ?_
  refine bW (i := 22) (N := some 25) hHeld ?_
  refine bW (i := 26) (N := some 29) hHeld ?_
  refine bU (i := 27) (N := some 30) ?_
  refine one_ (i := 28) (N := some 31) #[true,true,true,true,true,true,true,true,true,true,true,true,true,true,true,true,true,true,true,true,true,true,true,true,true,true,true,true,true,false,false] rfl rfl (one_of HT_.out (by kernel_rfl)) (by decide) (fun K hK => ?_)
  refine goes_ Try.func57 (by kernel_rfl) rfl #[.int .i64 ji7, .int .i64 1, .int .i64 50] (by rfl) rfl rfl (by (try simp only [List.map_toArray, List.map_cons, List.map_nil]); first | done | (simp only [hji7]; rfl) | rfl | (simp only [List.length_drop, List.length_take]; rfl)) ?_
  with_reducible refine (rules_within_int.calls ji7 1 50 t248 _ A8.out).mono ?_
  rintro e w' ⟨rfl, ⟨nd, rfl⟩⟩
  refine ⟨_, rfl, ?_⟩
  refine hK.out _ _ ⟨bq BK0 0, bq BK0 1, bq BK0 2, bq BK0 3, bq BK0 4, bq BK0 5, bq BK0 6, bq BK0 7, bq BK0 8⟩ (fun hHeld => ?_)
  clear hK K
  refine bI 31 ?_
  refine bU (i := 29) (N := some 32) ?_
  refine bU (i := 30) (N := some 2) ?_
  refine done_ (done_of HT_.out (by kernel_rfl)) ?_
  try go_wp2
  go_ret
  exact ⟨by first | rfl | (simp [errW_none, errW_some] <;> rfl) | (simp only [← hji2, ← hji3, ← hji6, ← hji7]; first | rfl | (simp [errW_none, errW_some] <;> rfl)) | (simp [*, errW_none, errW_some] <;> rfl), by repeat (first | (with_reducible first | exact HB.out | apply below_alloc | apply pw_below_drewN | apply below_drew1 | refine below_set ?_ GE0.out) | exact HB.out)⟩
 replace c5 := Bool.eq_false_iff.mpr c5
 subst c5
 rw [if_neg bn] at H
 obtain rfl := Option.some.inj H
 go_enter Try.func60, Try.ntmps60
 try go_wp2
 replace BK0 := bA (blk_drew BK0.out)
 replace HB := bA (below_drew1 HB.out)
 refine start_ (n := 31) (S := fun w' => w'.cell? ⟨g, 0, none⟩ = some (vz0_0) ∧ w'.cell? ⟨g, 1, none⟩ = some (.int .i64 s0_1) ∧ w'.cell? ⟨g, 2, none⟩ = some (.int .i64 s0_2) ∧ w'.cell? ⟨g, 3, none⟩ = some (.int .i64 s0_3) ∧ w'.cell? ⟨g, 4, none⟩ = some (.int .i64 s0_4) ∧ w'.cell? ⟨g, 5, none⟩ = some (.int .i64 s0_5) ∧ w'.cell? ⟨g, 6, none⟩ = some (.int .i64 s0_6) ∧ w'.cell? ⟨g, 7, none⟩ = some (.int .i64 s0_7) ∧ w'.cell? ⟨g, 8, none⟩ = some (.int .i64 s0_8)) (ds := []) #[false,false,false,false,false,false,false,false,false,false,false,false,false,false,false,false,false,false,false,false,false,false,false,false,false,false,false,false,false,false,false] (by kernel_rfl) rfl rfl ⟨bq BK0 0, bq BK0 1, bq BK0 2, bq BK0 3, bq BK0 4, bq BK0 5, bq BK0 6, bq BK0 7, bq BK0 8⟩ (fun hHeld => ?_); refine with_tabW rules_limits.tab1 rules_limits.bits1 (fun HT_ HW_ => ?_)
 generalize w.drew = w10 at BK0 HB hHeld ⊢
 refine bU (i := 0) (N := some 3) ?_
 refine bU (i := 1) (N := some 4) ?_
 refine bU (i := 2) (N := some 5) ?_
 refine bU (i := 4) (N := some 7) ?_
 refine bU (i := 5) (N := some 8) ?_
 refine bU (i := 6) (N := some 9) ?_
 refine bU (i := 8) (N := some 11) ?_
 refine bU (i := 9) (N := some 12) ?_
 refine bU (i := 10) (N := some 13) ?_
 refine bW (i := 3) (N := some 6) hHeld ?_
 refine bW (i := 7) (N := some 10) hHeld ?_
 refine bW (i := 11) (N := some 14) hHeld ?_
 refine bU (i := 12) (N := some 15) ?_
 refine one_ (i := 13) (N := some 16) #[true,true,true,true,true,true,true,true,true,true,true,true,true,true,false,false,false,false,false,false,false,false,false,false,false,false,false,false,false,false,false] rfl rfl (one_of HT_.out (by kernel_rfl)) (by decide) (fun K hK => ?_)
 refine goes_ Try.func57 (by kernel_rfl) rfl #[.int .i64 ji3, .int .i64 1, .int .i64 50] (by rfl) rfl rfl (by (try simp only [List.map_toArray, List.map_cons, List.map_nil]); first | done | (simp only [hji3]; rfl) | rfl | (simp only [List.length_drop, List.length_take]; rfl)) ?_
 with_reducible refine (rules_within_int.calls ji3 1 50 false _ A4.out).mono ?_
 rintro e w' ⟨rfl, ⟨nd, rfl⟩⟩
 refine ⟨_, rfl, ?_⟩
 refine hK.out _ _ ⟨bq BK0 0, bq BK0 1, bq BK0 2, bq BK0 3, bq BK0 4, bq BK0 5, bq BK0 6, bq BK0 7, bq BK0 8⟩ (fun hHeld => ?_)
 clear hK K
 refine bI 16 ?_
 refine bU (i := 14) (N := some 17) ?_
 refine pure_ (i := 15) (N := some 18) (v := undef) (a' := ?_) #[true,true,true,true,true,true,true,true,true,true,true,true,true,true,true,true,false,false,false,false,false,false,false,false,false,false,false,false,false,false,false] rfl rfl (any_of HT_.out (by kernel_rfl)) (fun _ _ _ h => h) (Or.inr ⟨by rfl, rfl⟩) ?_ ?_
 rotate_left
 ·simp only [Act.put, List.setIfInBounds_toArray, List.set_cons_zero, List.set_cons_succ, i64_w, i32_w]
  rfl
 refine pure_ (i := 16) (N := some 19) (v := undef) (a' := ?_) #[true,true,true,true,true,true,true,true,true,true,true,true,true,true,true,true,true,false,false,false,false,false,false,false,false,false,false,false,false,false,false] rfl rfl (any_of HT_.out (by kernel_rfl)) (fun _ _ _ h => h) (Or.inr ⟨by rfl, rfl⟩) ?_ ?_
 rotate_left
 ·simp only [Act.put, List.setIfInBounds_toArray, List.set_cons_zero, List.set_cons_succ, i64_w, i32_w]
  rfl
 refine pure_ (i := 17) (N := some 20) (v := undef) (a' := ?_) #[true,true,true,true,true,true,true,true,true,true,true,true,true,true,true,true,true,true,false,false,false,false,false,false,false,false,false,false,false,false,false] rfl rfl (any_of HT_.out (by kernel_rfl)) (fun _ _ _ h => h) (Or.inr ⟨by rfl, rfl⟩) ?_ ?_
 rotate_left
 ·simp only [Act.put, List.setIfInBounds_toArray, List.set_cons_zero, List.set_cons_succ, i64_w, i32_w]
  rfl
 refine pure_ (i := 18) (N := some 21) (v := undef) (a' := ?_) #[true,true,true,true,true,true,true,true,true,true,true,true,true,true,true,true,true,true,true,false,false,false,false,false,false,false,false,false,false,false,false] rfl rfl (any_of HT_.out (by kernel_rfl)) (fun _ _ _ h => h) (Or.inr ⟨by rfl, rfl⟩) ?_ ?_
 rotate_left
 ·simp only [Act.put, List.setIfInBounds_toArray, List.set_cons_zero, List.set_cons_succ, i64_w, i32_w]
  rfl
 refine pure_ (i := 19) (N := some 22) (v := undef) (a' := ?_) #[true,true,true,true,true,true,true,true,true,true,true,true,true,true,true,true,true,true,true,true,false,false,false,false,false,false,false,false,false,false,false] rfl rfl (any_of HT_.out (by kernel_rfl)) (fun _ _ _ h => h) (Or.inr ⟨by rfl, rfl⟩) ?_ ?_
 rotate_left
 ·simp only [Act.put, List.setIfInBounds_toArray, List.set_cons_zero, List.set_cons_succ, i64_w, i32_w]
  rfl
 refine pure_ (i := 20) (N := some 23) (v := undef) (a' := ?_) #[true,true,true,true,true,true,true,true,true,true,true,true,true,true,true,true,true,true,true,true,true,false,false,false,false,false,false,false,false,false,false] rfl rfl (any_of HT_.out (by kernel_rfl)) (fun _ _ _ h => h) (Or.inr ⟨by rfl, rfl⟩) ?_ ?_
 rotate_left
 ·simp only [Act.put, List.setIfInBounds_toArray, List.set_cons_zero, List.set_cons_succ, i64_w, i32_w]
  rfl
 refine pure_ (i := 21) (N := some 24) (v := undef) (a' := ?_) #[true,true,true,true,true,true,true,true,true,true,true,true,true,true,true,true,true,true,true,true,true,true,false,false,false,false,false,false,false,false,false] rfl rfl (any_of HT_.out (by kernel_rfl)) (fun _ _ _ h => h) (Or.inr ⟨by rfl, rfl⟩) ?_ ?_
 rotate_left
 ·simp only [Act.put, List.setIfInBounds_toArray, List.set_cons_zero, List.set_cons_succ, i64_w, i32_w]
  rfl
 refine pure_ (i := 22) (N := some 25) (v := undef) (a' := ?_) #[true,true,true,true,true,true,true,true,true,true,true,true,true,true,true,true,true,true,true,true,true,true,true,false,false,false,false,false,false,false,false] rfl rfl (any_of HT_.out (by kernel_rfl)) (fun _ _ _ h => h) (Or.inr ⟨by rfl, rfl⟩) ?_ ?_
 rotate_left
 ·simp only [Act.put, List.setIfInBounds_toArray, List.set_cons_zero, List.set_cons_succ, i64_w, i32_w]
  rfl
 refine pure_ (i := 23) (N := some 26) (v := undef) (a' := ?_) #[true,true,true,true,true,true,true,true,true,true,true,true,true,true,true,true,true,true,true,true,true,true,true,true,false,false,false,false,false,false,false] rfl rfl (any_of HT_.out (by kernel_rfl)) (fun _ _ _ h => h) (Or.inr ⟨by rfl, rfl⟩) ?_ ?_
 rotate_left
 ·simp only [Act.put, List.setIfInBounds_toArray, List.set_cons_zero, List.set_cons_succ, i64_w, i32_w]
  rfl
 refine pure_ (i := 24) (N := some 27) (v := undef) (a' := ?_) #[true,true,true,true,true,true,true,true,true,true,true,true,true,true,true,true,true,true,true,true,true,true,true,true,true,false,false,false,false,false,false] rfl rfl (any_of HT_.out (by kernel_rfl)) (fun _ _ _ h => h) (Or.inr ⟨by rfl, rfl⟩) ?_ ?_
 rotate_left
 ·simp only [Act.put, List.setIfInBounds_toArray, List.set_cons_zero, List.set_cons_succ, i64_w, i32_w]
  rfl
 refine pure_ (i := 25) (N := some 28) (v := undef) (a' := ?_) #[true,true,true,true,true,true,true,true,true,true,true,true,true,true,true,true,true,true,true,true,true,true,true,true,true,true,false,false,false,false,false] rfl rfl (any_of HT_.out (by kernel_rfl)) (fun _ _ _ h => h) (Or.inr ⟨by rfl, rfl⟩) ?_ ?_
 rotate_left
 ·simp only [Act.put, List.setIfInBounds_toArray, List.set_cons_zero, List.set_cons_succ, i64_w, i32_w]
  rfl
 refine pure_ (i := 26) (N := some 29) (v := undef) (a' := ?_) #[true,true,true,true,true,true,true,true,true,true,true,true,true,true,true,true,true,true,true,true,true,true,true,true,true,true,true,false,false,false,false] rfl rfl (any_of HT_.out (by kernel_rfl)) (fun _ _ _ h => h) (Or.inr ⟨by rfl, rfl⟩) ?_ ?_
 rotate_left
 ·simp only [Act.put, List.setIfInBounds_toArray, List.set_cons_zero, List.set_cons_succ, i64_w, i32_w]
  rfl
 refine pure_ (i := 27) (N := some 30) (v := undef) (a' := ?_) #[true,true,true,true,true,true,true,true,true,true,true,true,true,true,true,true,true,true,true,true,true,true,true,true,true,true,true,true,false,false,false] rfl rfl (any_of HT_.out (by kernel_rfl)) (fun _ _ _ h => h) (Or.inr ⟨by rfl, rfl⟩) ?_ ?_
 rotate_left
 ·simp only [Act.put, List.setIfInBounds_toArray, List.set_cons_zero, List.set_cons_succ, i64_w, i32_w]
  rfl
 refine pure_ (i := 28) (N := some 31) (v := undef) (a' := ?_) #[true,true,true,true,true,true,true,true,true,true,true,true,true,true,true,true,true,true,true,true,true,true,true,true,true,true,true,true,true,false,false] rfl rfl (any_of HT_.out (by kernel_rfl)) (fun _ _ _ h => h) (Or.inr ⟨by rfl, rfl⟩) ?_ ?_
 rotate_left
 ·simp only [Act.put, List.setIfInBounds_toArray, List.set_cons_zero, List.set_cons_succ, i64_w, i32_w]
  rfl
 refine bU (i := 29) (N := some 32) ?_
 refine bU (i := 30) (N := some 2) ?_
 refine done_ (done_of HT_.out (by kernel_rfl)) ?_
 try go_wp2
 go_ret
 exact ⟨by first | rfl | (simp [errW_none, errW_some] <;> rfl) | (simp only [← hji2, ← hji3]; first | rfl | (simp [errW_none, errW_some] <;> rfl)) | (simp [*, errW_none, errW_some] <;> rfl), by repeat (first | (with_reducible first | exact HB.out | apply below_alloc | apply pw_below_drewN | apply below_drew1 | refine below_set ?_ GE0.out) | exact HB.out)⟩
/-! ### rules_Wrong: function 18 -/
def rules_Wrong.f (k : Nat) (l0_0 : List (S30)) (a0_1 : Int) (a0_2 : Int) (a0_3 : Int) (a0_4 : Int) (a0_5 : Int) (a0_6 : Int) (a0_7 : Int) (a0_8 : Int) : Option (Int) := (rules_within_int.f (l0_0.length : Int) 1 4).bind fun t250 => (if t250 = true then ((slices_ContainsFunc_Phase_F_rules_Wrong_1.f k l0_0).bind fun t251 => (if t251 = true then (some 2) else ((rules_limits.f a0_1 a0_2 a0_3 a0_4 a0_5 a0_6 a0_7 a0_8).bind fun t252 => (if t252 = true then ((rules_within_int64.f a0_4 0 1024).bind fun t253 => (if t253 = true then ((rules_within_int64.f a0_5 1 65536).bind fun t254 => (if t254 = true then ((rules_within_int.f a0_6 1 50).bind fun t255 => (if t255 = true then ((rules_within_int64.f a0_7 1 1073741824).bind fun t256 => (if t256 = true then ((rules_within_int.f a0_8 0 (l0_0.length : Int)).bind fun t257 => (if t257 = true then (some 0) else (some 8))) else (some 7))) else (some 6))) else (some 5))) else (some 4))) else (some 3))))) else (some 1))
theorem rules_Wrong.mono : ∀ a0 a1 a2 a3 a4 a5 a6 a7 a8 k, LeO (rules_Wrong.f k a0 a1 a2 a3 a4 a5 a6 a7 a8) (rules_Wrong.f (k + 1) a0 a1 a2 a3 a4 a5 a6 a7 a8) := by
 intro a0 a1 a2 a3 a4 a5 a6 a7 a8 k
 unfold rules_Wrong.f
 have m0_ := @slices_ContainsFunc_Phase_F_rules_Wrong_1.mono
 exact bMo
set_option maxHeartbeats 8000000 in
set_option maxRecDepth 100000 in
theorem rules_Wrong.calls (k : Nat) (A0_0 : Option Addr) (c0_0 : Nat) (l0_0 : List (S30)) (a0_1 : Int) (a0_2 : Int) (a0_3 : Int) (a0_4 : Int) (a0_5 : Int) (a0_6 : Int) (a0_7 : Int) (a0_8 : Int) (r : Int) (w : World) (hr0_0 : Kd.C k30 w A0_0 l0_0.length l0_0) (hc0_0 : l0_0.length ≤ c0_0) (h : rules_Wrong.f k l0_0 a0_1 a0_2 a0_3 a0_4 a0_5 a0_6 a0_7 a0_8 = some r) :
  Calls Try.prog 18 #[.agg #[.slice A0_0 l0_0.length c0_0, .int .i64 a0_1, .int .i64 a0_2, .int .i64 a0_3, .int .i64 a0_4, .int .i64 a0_5, .int .i64 a0_6, .int .i64 a0_7, .int .i64 a0_8]] w fun e w' => e = .returned (.int .i64 r) ∧ Below w.heap.size w w' := by
 have hu24 := Try.underlying24
 have HR0_0 := bA hr0_0
 have HC0_0 := bA hc0_0
 clear hr0_0 hc0_0
 have HB := bA (Below.refl w.heap.size w)
 have H : ((rules_within_int.f (l0_0.length : Int) 1 4).bind fun t250 => (if t250 = true then ((slices_ContainsFunc_Phase_F_rules_Wrong_1.f k l0_0).bind fun t251 => (if t251 = true then (some 2) else ((rules_limits.f a0_1 a0_2 a0_3 a0_4 a0_5 a0_6 a0_7 a0_8).bind fun t252 => (if t252 = true then ((rules_within_int64.f a0_4 0 1024).bind fun t253 => (if t253 = true then ((rules_within_int64.f a0_5 1 65536).bind fun t254 => (if t254 = true then ((rules_within_int.f a0_6 1 50).bind fun t255 => (if t255 = true then ((rules_within_int64.f a0_7 1 1073741824).bind fun t256 => (if t256 = true then ((rules_within_int.f a0_8 0 (l0_0.length : Int)).bind fun t257 => (if t257 = true then (some 0) else (some 8))) else (some 7))) else (some 6))) else (some 5))) else (some 4))) else (some 3))))) else (some 1))) = some r := h
 clear h
 replace H := Option.bind_eq_some_iff.mp H
 obtain ⟨t250, A20, H⟩ := H
 have A2 := bA A20
 clear A20
 by_cases c3 : t250 = true
 rotate_left
 ·replace c3 := Bool.eq_false_iff.mpr c3
  subst c3
  rw [if_neg bn] at H
  obtain rfl := Option.some.inj H
  go_enter Try.func18, Try.ntmps18
  go_wp2_with (first | ((with_reducible refine gate_dst (N := 1) rfl ?_); refine bE (N := 1) (cs := #[.slice A0_0 l0_0.length c0_0, .int .i64 a0_1, .int .i64 a0_2, .int .i64 a0_3, .int .i64 a0_4, .int .i64 a0_5, .int .i64 a0_6, .int .i64 a0_7, .int .i64 a0_8]) (t := 24) ?_; intro gb249 hg w55 hbox hb; have BK249 := bA (hbox); have GW249 := bA (bZ hg); have GE249 := bA (bZ hg); replace HB := bA (bS hb); clear hb hbox hg; obtain ⟨hcz56_0, hcz56_1, hcz56_2, hcz56_3, hcz56_4, hcz56_5, hcz56_6, hcz56_7, hcz56_8, hfz56_0, hfz56_1, hfz56_2, hfz56_3, hfz56_4, hfz56_5, hfz56_6, hfz56_7, hfz56_8⟩ := bc9 BK249) | ((first | ((with_reducible refine gate_callee (f := 57) rfl ?_); refine bC (some 7) Try.func57 #[.int .i64 (l0_0.length : Int), .int .i64 1, .int .i64 4] ?_) | go_at_call 57); (with_reducible refine (rules_within_int.calls (l0_0.length : Int) 1 4 false _ A2.out).mono ?_); rintro e w' ⟨rfl, ⟨nd, rfl⟩⟩; (first | refine ⟨_, rfl, ?_⟩ | skip)))
  go_ret
  exact bF
 subst c3
 rw [if_pos rfl] at H
 replace H := Option.bind_eq_some_iff.mp H
 obtain ⟨t251, A40, H⟩ := H
 have A4 := bA A40
 clear A40
 by_cases c5 : t251 = true
 ·subst c5
  rw [if_pos rfl] at H
  obtain rfl := Option.some.inj H
  go_enter Try.func18, Try.ntmps18
  go_wp2_with (first | ((with_reducible refine gate_dst (N := 1) rfl ?_); refine bE (N := 1) (cs := #[.slice A0_0 l0_0.length c0_0, .int .i64 a0_1, .int .i64 a0_2, .int .i64 a0_3, .int .i64 a0_4, .int .i64 a0_5, .int .i64 a0_6, .int .i64 a0_7, .int .i64 a0_8]) (t := 24) ?_; intro gb249 hg w6 hbox hb; have BK249 := bA (hbox); have GW249 := bA (bZ hg); have GE249 := bA (bZ hg); replace HB := bA (bS hb); clear hb hbox hg; obtain ⟨hcz7_0, hcz7_1, hcz7_2, hcz7_3, hcz7_4, hcz7_5, hcz7_6, hcz7_7, hcz7_8, hfz7_0, hfz7_1, hfz7_2, hfz7_3, hfz7_4, hfz7_5, hfz7_6, hfz7_7, hfz7_8⟩ := bc9 BK249) | ((first | ((with_reducible refine gate_callee (f := 57) rfl ?_); refine bC (some 7) Try.func57 #[.int .i64 (l0_0.length : Int), .int .i64 1, .int .i64 4] ?_) | go_at_call 57); (with_reducible refine (rules_within_int.calls (l0_0.length : Int) 1 4 true _ A2.out).mono ?_); rintro e w' ⟨rfl, ⟨nd, rfl⟩⟩; (first | refine ⟨_, rfl, ?_⟩ | skip)) | ((first | ((with_reducible refine gate_callee (f := 58) rfl ?_); refine bC (some 12) Try.func58 #[.slice A0_0 l0_0.length c0_0, .func (.func 59) #[] #[]] ?_) | go_at_call 58); (with_reducible refine (slices_ContainsFunc_Phase_F_rules_Wrong_1.calls k _ _ l0_0  true _ ?side1 ?side2 A4.out).mono ?_); (case side1 => repeat (first | exact (Kd.C_below HR0_0.out bX) | (with_reducible refine Kd.C_alloc ?_ _) | (with_reducible refine Kd.C_drewN ?_ _) | (with_reducible refine Kd.C_drew ?_))); (case side2 => exact HC0_0.out); rintro e w8 ⟨rfl, hb⟩; (first | refine ⟨_, rfl, ?_⟩ | skip); replace BK249 := bA (bB BK249 hb); replace HB := bA (bS hb); (try clear hb)))
  go_ret
  exact bF
 replace c5 := Bool.eq_false_iff.mpr c5
 subst c5
 rw [if_neg bn] at H
 replace H := Option.bind_eq_some_iff.mp H
 obtain ⟨t252, A90, H⟩ := H
 have A9 := bA A90
 clear A90
 by_cases c10 : t252 = true
 rotate_left
 ·replace c10 := Bool.eq_false_iff.mpr c10
  subst c10
  rw [if_neg bn] at H
  obtain rfl := Option.some.inj H
  go_enter Try.func18, Try.ntmps18
  go_wp2_with (first | ((with_reducible refine gate_dst (N := 1) rfl ?_); refine bE (N := 1) (cs := #[.slice A0_0 l0_0.length c0_0, .int .i64 a0_1, .int .i64 a0_2, .int .i64 a0_3, .int .i64 a0_4, .int .i64 a0_5, .int .i64 a0_6, .int .i64 a0_7, .int .i64 a0_8]) (t := 24) ?_; intro gb249 hg w51 hbox hb; have BK249 := bA (hbox); have GW249 := bA (bZ hg); have GE249 := bA (bZ hg); replace HB := bA (bS hb); clear hb hbox hg; obtain ⟨hcz52_0, hcz52_1, hcz52_2, hcz52_3, hcz52_4, hcz52_5, hcz52_6, hcz52_7, hcz52_8, hfz52_0, hfz52_1, hfz52_2, hfz52_3, hfz52_4, hfz52_5, hfz52_6, hfz52_7, hfz52_8⟩ := bc9 BK249) | ((first | ((with_reducible refine gate_callee (f := 57) rfl ?_); refine bC (some 7) Try.func57 #[.int .i64 (l0_0.length : Int), .int .i64 1, .int .i64 4] ?_) | go_at_call 57); (with_reducible refine (rules_within_int.calls (l0_0.length : Int) 1 4 true _ A2.out).mono ?_); rintro e w' ⟨rfl, ⟨nd, rfl⟩⟩; (first | refine ⟨_, rfl, ?_⟩ | skip)) | ((first | ((with_reducible refine gate_callee (f := 58) rfl ?_); refine bC (some 12) Try.func58 #[.slice A0_0 l0_0.length c0_0, .func (.func 59) #[] #[]] ?_) | go_at_call 58); (with_reducible refine (slices_ContainsFunc_Phase_F_rules_Wrong_1.calls k _ _ l0_0  false _ ?side1 ?side2 A4.out).mono ?_); (case side1 => repeat (first | exact (Kd.C_below HR0_0.out bX) | (with_reducible refine Kd.C_alloc ?_ _) | (with_reducible refine Kd.C_drewN ?_ _) | (with_reducible refine Kd.C_drew ?_))); (case side2 => exact HC0_0.out); rintro e w53 ⟨rfl, hb⟩; (first | refine ⟨_, rfl, ?_⟩ | skip); replace BK249 := bA (bB BK249 hb); replace HB := bA (bS hb); (try clear hb)) | ((first | ((with_reducible refine gate_callee (f := 60) rfl ?_); refine bC (some 14) Try.func60 #[.pointer (some ⟨gb249, 0, none⟩)] ?_) | go_at_call 60); (with_reducible refine (rules_limits.calls gb249 ?vz0 a0_1 a0_2 a0_3 a0_4 a0_5 a0_6 a0_7 a0_8 false _ ?side1 A9.out).mono ?_); (case side1 => exact (bP BK249)); rintro e w54 ⟨rfl, hb⟩; (first | refine ⟨_, rfl, ?_⟩ | skip); replace BK249 := bA (bB BK249 hb); replace HB := bA (bS hb); (try clear hb)))
  go_ret
  exact bF
 subst c10
 rw [if_pos rfl] at H
 replace H := Option.bind_eq_some_iff.mp H
 obtain ⟨t253, A110, H⟩ := H
 have A11 := bA A110
 clear A110
 by_cases c12 : t253 = true
 rotate_left
 ·replace c12 := Bool.eq_false_iff.mpr c12
  subst c12
  rw [if_neg bn] at H
  obtain rfl := Option.some.inj H
  go_enter Try.func18, Try.ntmps18
  go_wp2_with (first | ((with_reducible refine gate_dst (N := 1) rfl ?_); refine bE (N := 1) (cs := #[.slice A0_0 l0_0.length c0_0, .int .i64 a0_1, .int .i64 a0_2, .int .i64 a0_3, .int .i64 a0_4, .int .i64 a0_5, .int .i64 a0_6, .int .i64 a0_7, .int .i64 a0_8]) (t := 24) ?_; intro gb249 hg w46 hbox hb; have BK249 := bA (hbox); have GW249 := bA (bZ hg); have GE249 := bA (bZ hg); replace HB := bA (bS hb); clear hb hbox hg; obtain ⟨hcz47_0, hcz47_1, hcz47_2, hcz47_3, hcz47_4, hcz47_5, hcz47_6, hcz47_7, hcz47_8, hfz47_0, hfz47_1, hfz47_2, hfz47_3, hfz47_4, hfz47_5, hfz47_6, hfz47_7, hfz47_8⟩ := bc9 BK249) | ((first | ((with_reducible refine gate_callee (f := 57) rfl ?_); refine bC (some 7) Try.func57 #[.int .i64 (l0_0.length : Int), .int .i64 1, .int .i64 4] ?_) | go_at_call 57); (with_reducible refine (rules_within_int.calls (l0_0.length : Int) 1 4 true _ A2.out).mono ?_); rintro e w' ⟨rfl, ⟨nd, rfl⟩⟩; (first | refine ⟨_, rfl, ?_⟩ | skip)) | ((first | ((with_reducible refine gate_callee (f := 58) rfl ?_); refine bC (some 12) Try.func58 #[.slice A0_0 l0_0.length c0_0, .func (.func 59) #[] #[]] ?_) | go_at_call 58); (with_reducible refine (slices_ContainsFunc_Phase_F_rules_Wrong_1.calls k _ _ l0_0  false _ ?side1 ?side2 A4.out).mono ?_); (case side1 => repeat (first | exact (Kd.C_below HR0_0.out bX) | (with_reducible refine Kd.C_alloc ?_ _) | (with_reducible refine Kd.C_drewN ?_ _) | (with_reducible refine Kd.C_drew ?_))); (case side2 => exact HC0_0.out); rintro e w48 ⟨rfl, hb⟩; (first | refine ⟨_, rfl, ?_⟩ | skip); replace BK249 := bA (bB BK249 hb); replace HB := bA (bS hb); (try clear hb)) | ((first | ((with_reducible refine gate_callee (f := 60) rfl ?_); refine bC (some 14) Try.func60 #[.pointer (some ⟨gb249, 0, none⟩)] ?_) | go_at_call 60); (with_reducible refine (rules_limits.calls gb249 ?vz0 a0_1 a0_2 a0_3 a0_4 a0_5 a0_6 a0_7 a0_8 true _ ?side1 A9.out).mono ?_); (case side1 => exact (bP BK249)); rintro e w49 ⟨rfl, hb⟩; (first | refine ⟨_, rfl, ?_⟩ | skip); replace BK249 := bA (bB BK249 hb); replace HB := bA (bS hb); (try clear hb); obtain ⟨hcz50_0, hcz50_1, hcz50_2, hcz50_3, hcz50_4, hcz50_5, hcz50_6, hcz50_7, hcz50_8, hfz50_0, hfz50_1, hfz50_2, hfz50_3, hfz50_4, hfz50_5, hfz50_6, hfz50_7, hfz50_8⟩ := bc9 BK249) | ((first | ((with_reducible refine gate_callee (f := 61) rfl ?_); refine bC (some 19) Try.func61 #[.int .i64 a0_4, .int .i64 0, .int .i64 1024] ?_) | go_at_call 61); (with_reducible refine (rules_within_int64.calls a0_4 0 1024 false _ A11.out).mono ?_); rintro e w' ⟨rfl, ⟨nd, rfl⟩⟩; (first | refine ⟨_, rfl, ?_⟩ | skip)))
  go_ret
  exact bF
 subst c12
 rw [if_pos rfl] at H
 replace H := Option.bind_eq_some_iff.mp H
 obtain ⟨t254, A130, H⟩ := H
 have A13 := bA A130
 clear A130
 by_cases c14 : t254 = true
 rotate_left
 ·replace c14 := Bool.eq_false_iff.mpr c14
  subst c14
  rw [if_neg bn] at H
  obtain rfl := Option.some.inj H
  go_enter Try.func18, Try.ntmps18
  go_wp2_with (first | ((with_reducible refine gate_dst (N := 1) rfl ?_); refine bE (N := 1) (cs := #[.slice A0_0 l0_0.length c0_0, .int .i64 a0_1, .int .i64 a0_2, .int .i64 a0_3, .int .i64 a0_4, .int .i64 a0_5, .int .i64 a0_6, .int .i64 a0_7, .int .i64 a0_8]) (t := 24) ?_; intro gb249 hg w41 hbox hb; have BK249 := bA (hbox); have GW249 := bA (bZ hg); have GE249 := bA (bZ hg); replace HB := bA (bS hb); clear hb hbox hg; obtain ⟨hcz42_0, hcz42_1, hcz42_2, hcz42_3, hcz42_4, hcz42_5, hcz42_6, hcz42_7, hcz42_8, hfz42_0, hfz42_1, hfz42_2, hfz42_3, hfz42_4, hfz42_5, hfz42_6, hfz42_7, hfz42_8⟩ := bc9 BK249) | ((first | ((with_reducible refine gate_callee (f := 57) rfl ?_); refine bC (some 7) Try.func57 #[.int .i64 (l0_0.length : Int), .int .i64 1, .int .i64 4] ?_) | go_at_call 57); (with_reducible refine (rules_within_int.calls (l0_0.length : Int) 1 4 true _ A2.out).mono ?_); rintro e w' ⟨rfl, ⟨nd, rfl⟩⟩; (first | refine ⟨_, rfl, ?_⟩ | skip)) | ((first | ((with_reducible refine gate_callee (f := 58) rfl ?_); refine bC (some 12) Try.func58 #[.slice A0_0 l0_0.length c0_0, .func (.func 59) #[] #[]] ?_) | go_at_call 58); (with_reducible refine (slices_ContainsFunc_Phase_F_rules_Wrong_1.calls k _ _ l0_0  false _ ?side1 ?side2 A4.out).mono ?_); (case side1 => repeat (first | exact (Kd.C_below HR0_0.out bX) | (with_reducible refine Kd.C_alloc ?_ _) | (with_reducible refine Kd.C_drewN ?_ _) | (with_reducible refine Kd.C_drew ?_))); (case side2 => exact HC0_0.out); rintro e w43 ⟨rfl, hb⟩; (first | refine ⟨_, rfl, ?_⟩ | skip); replace BK249 := bA (bB BK249 hb); replace HB := bA (bS hb); (try clear hb)) | ((first | ((with_reducible refine gate_callee (f := 60) rfl ?_); refine bC (some 14) Try.func60 #[.pointer (some ⟨gb249, 0, none⟩)] ?_) | go_at_call 60); (with_reducible refine (rules_limits.calls gb249 ?vz0 a0_1 a0_2 a0_3 a0_4 a0_5 a0_6 a0_7 a0_8 true _ ?side1 A9.out).mono ?_); (case side1 => exact (bP BK249)); rintro e w44 ⟨rfl, hb⟩; (first | refine ⟨_, rfl, ?_⟩ | skip); replace BK249 := bA (bB BK249 hb); replace HB := bA (bS hb); (try clear hb); obtain ⟨hcz45_0, hcz45_1, hcz45_2, hcz45_3, hcz45_4, hcz45_5, hcz45_6, hcz45_7, hcz45_8, hfz45_0, hfz45_1, hfz45_2, hfz45_3, hfz45_4, hfz45_5, hfz45_6, hfz45_7, hfz45_8⟩ := bc9 BK249) | ((first | ((with_reducible refine gate_callee (f := 61) rfl ?_); refine bC (some 19) Try.func61 #[.int .i64 a0_4, .int .i64 0, .int .i64 1024] ?_) | go_at_call 61); (with_reducible refine (rules_within_int64.calls a0_4 0 1024 true _ A11.out).mono ?_); rintro e w' ⟨rfl, ⟨nd, rfl⟩⟩; (first | refine ⟨_, rfl, ?_⟩ | skip)) | ((first | ((with_reducible refine gate_callee (f := 61) rfl ?_); refine bC (some 24) Try.func61 #[.int .i64 a0_5, .int .i64 1, .int .i64 65536] ?_) | go_at_call 61); (with_reducible refine (rules_within_int64.calls a0_5 1 65536 false _ A13.out).mono ?_); rintro e w' ⟨rfl, ⟨nd, rfl⟩⟩; (first | refine ⟨_, rfl, ?_⟩ | skip)))
  go_ret
  exact bF
 subst c14
 rw [if_pos rfl] at H
 replace H := Option.bind_eq_some_iff.mp H
 obtain ⟨t255, A150, H⟩ := H
 have A15 := bA A150
 clear A150
 by_cases c16 : t255 = true
 rotate_left
 ·replace c16 := Bool.eq_false_iff.mpr c16
  subst c16
  rw [if_neg bn] at H
  obtain rfl := Option.some.inj H
  go_enter Try.func18, Try.ntmps18
  go_wp2_with (first | ((with_reducible refine gate_dst (N := 1) rfl ?_); refine bE (N := 1) (cs := #[.slice A0_0 l0_0.length c0_0, .int .i64 a0_1, .int .i64 a0_2, .int .i64 a0_3, .int .i64 a0_4, .int .i64 a0_5, .int .i64 a0_6, .int .i64 a0_7, .int .i64 a0_8]) (t := 24) ?_; intro gb249 hg w36 hbox hb; have BK249 := bA (hbox); have GW249 := bA (bZ hg); have GE249 := bA (bZ hg); replace HB := bA (bS hb); clear hb hbox hg; obtain ⟨hcz37_0, hcz37_1, hcz37_2, hcz37_3, hcz37_4, hcz37_5, hcz37_6, hcz37_7, hcz37_8, hfz37_0, hfz37_1, hfz37_2, hfz37_3, hfz37_4, hfz37_5, hfz37_6, hfz37_7, hfz37_8⟩ := bc9 BK249) | ((first | ((with_reducible refine gate_callee (f := 57) rfl ?_); refine bC (some 7) Try.func57 #[.int .i64 (l0_0.length : Int), .int .i64 1, .int .i64 4] ?_) | go_at_call 57); (with_reducible refine (rules_within_int.calls (l0_0.length : Int) 1 4 true _ A2.out).mono ?_); rintro e w' ⟨rfl, ⟨nd, rfl⟩⟩; (first | refine ⟨_, rfl, ?_⟩ | skip)) | ((first | ((with_reducible refine gate_callee (f := 58) rfl ?_); refine bC (some 12) Try.func58 #[.slice A0_0 l0_0.length c0_0, .func (.func 59) #[] #[]] ?_) | go_at_call 58); (with_reducible refine (slices_ContainsFunc_Phase_F_rules_Wrong_1.calls k _ _ l0_0  false _ ?side1 ?side2 A4.out).mono ?_); (case side1 => repeat (first | exact (Kd.C_below HR0_0.out bX) | (with_reducible refine Kd.C_alloc ?_ _) | (with_reducible refine Kd.C_drewN ?_ _) | (with_reducible refine Kd.C_drew ?_))); (case side2 => exact HC0_0.out); rintro e w38 ⟨rfl, hb⟩; (first | refine ⟨_, rfl, ?_⟩ | skip); replace BK249 := bA (bB BK249 hb); replace HB := bA (bS hb); (try clear hb)) | ((first | ((with_reducible refine gate_callee (f := 60) rfl ?_); refine bC (some 14) Try.func60 #[.pointer (some ⟨gb249, 0, none⟩)] ?_) | go_at_call 60); (with_reducible refine (rules_limits.calls gb249 ?vz0 a0_1 a0_2 a0_3 a0_4 a0_5 a0_6 a0_7 a0_8 true _ ?side1 A9.out).mono ?_); (case side1 => exact (bP BK249)); rintro e w39 ⟨rfl, hb⟩; (first | refine ⟨_, rfl, ?_⟩ | skip); replace BK249 := bA (bB BK249 hb); replace HB := bA (bS hb); (try clear hb); obtain ⟨hcz40_0, hcz40_1, hcz40_2, hcz40_3, hcz40_4, hcz40_5, hcz40_6, hcz40_7, hcz40_8, hfz40_0, hfz40_1, hfz40_2, hfz40_3, hfz40_4, hfz40_5, hfz40_6, hfz40_7, hfz40_8⟩ := bc9 BK249) | ((first | ((with_reducible refine gate_callee (f := 61) rfl ?_); refine bC (some 19) Try.func61 #[.int .i64 a0_4, .int .i64 0, .int .i64 1024] ?_) | go_at_call 61); (with_reducible refine (rules_within_int64.calls a0_4 0 1024 true _ A11.out).mono ?_); rintro e w' ⟨rfl, ⟨nd, rfl⟩⟩; (first | refine ⟨_, rfl, ?_⟩ | skip)) | ((first | ((with_reducible refine gate_callee (f := 61) rfl ?_); refine bC (some 24) Try.func61 #[.int .i64 a0_5, .int .i64 1, .int .i64 65536] ?_) | go_at_call 61); (with_reducible refine (rules_within_int64.calls a0_5 1 65536 true _ A13.out).mono ?_); rintro e w' ⟨rfl, ⟨nd, rfl⟩⟩; (first | refine ⟨_, rfl, ?_⟩ | skip)) | ((first | ((with_reducible refine gate_callee (f := 57) rfl ?_); refine bC (some 29) Try.func57 #[.int .i64 a0_6, .int .i64 1, .int .i64 50] ?_) | go_at_call 57); (with_reducible refine (rules_within_int.calls a0_6 1 50 false _ A15.out).mono ?_); rintro e w' ⟨rfl, ⟨nd, rfl⟩⟩; (first | refine ⟨_, rfl, ?_⟩ | skip)))
  go_ret
  exact bF
 subst c16
 rw [if_pos rfl] at H
 replace H := Option.bind_eq_some_iff.mp H
 obtain ⟨t256, A170, H⟩ := H
 have A17 := bA A170
 clear A170
 by_cases c18 : t256 = true
 rotate_left
 ·replace c18 := Bool.eq_false_iff.mpr c18
  subst c18
  rw [if_neg bn] at H
  obtain rfl := Option.some.inj H
  go_enter Try.func18, Try.ntmps18
  go_wp2_with (first | ((with_reducible refine gate_dst (N := 1) rfl ?_); refine bE (N := 1) (cs := #[.slice A0_0 l0_0.length c0_0, .int .i64 a0_1, .int .i64 a0_2, .int .i64 a0_3, .int .i64 a0_4, .int .i64 a0_5, .int .i64 a0_6, .int .i64 a0_7, .int .i64 a0_8]) (t := 24) ?_; intro gb249 hg w31 hbox hb; have BK249 := bA (hbox); have GW249 := bA (bZ hg); have GE249 := bA (bZ hg); replace HB := bA (bS hb); clear hb hbox hg; obtain ⟨hcz32_0, hcz32_1, hcz32_2, hcz32_3, hcz32_4, hcz32_5, hcz32_6, hcz32_7, hcz32_8, hfz32_0, hfz32_1, hfz32_2, hfz32_3, hfz32_4, hfz32_5, hfz32_6, hfz32_7, hfz32_8⟩ := bc9 BK249) | ((first | ((with_reducible refine gate_callee (f := 57) rfl ?_); refine bC (some 7) Try.func57 #[.int .i64 (l0_0.length : Int), .int .i64 1, .int .i64 4] ?_) | go_at_call 57); (with_reducible refine (rules_within_int.calls (l0_0.length : Int) 1 4 true _ A2.out).mono ?_); rintro e w' ⟨rfl, ⟨nd, rfl⟩⟩; (first | refine ⟨_, rfl, ?_⟩ | skip)) | ((first | ((with_reducible refine gate_callee (f := 58) rfl ?_); refine bC (some 12) Try.func58 #[.slice A0_0 l0_0.length c0_0, .func (.func 59) #[] #[]] ?_) | go_at_call 58); (with_reducible refine (slices_ContainsFunc_Phase_F_rules_Wrong_1.calls k _ _ l0_0  false _ ?side1 ?side2 A4.out).mono ?_); (case side1 => repeat (first | exact (Kd.C_below HR0_0.out bX) | (with_reducible refine Kd.C_alloc ?_ _) | (with_reducible refine Kd.C_drewN ?_ _) | (with_reducible refine Kd.C_drew ?_))); (case side2 => exact HC0_0.out); rintro e w33 ⟨rfl, hb⟩; (first | refine ⟨_, rfl, ?_⟩ | skip); replace BK249 := bA (bB BK249 hb); replace HB := bA (bS hb); (try clear hb)) | ((first | ((with_reducible refine gate_callee (f := 60) rfl ?_); refine bC (some 14) Try.func60 #[.pointer (some ⟨gb249, 0, none⟩)] ?_) | go_at_call 60); (with_reducible refine (rules_limits.calls gb249 ?vz0 a0_1 a0_2 a0_3 a0_4 a0_5 a0_6 a0_7 a0_8 true _ ?side1 A9.out).mono ?_); (case side1 => exact (bP BK249)); rintro e w34 ⟨rfl, hb⟩; (first | refine ⟨_, rfl, ?_⟩ | skip); replace BK249 := bA (bB BK249 hb); replace HB := bA (bS hb); (try clear hb); obtain ⟨hcz35_0, hcz35_1, hcz35_2, hcz35_3, hcz35_4, hcz35_5, hcz35_6, hcz35_7, hcz35_8, hfz35_0, hfz35_1, hfz35_2, hfz35_3, hfz35_4, hfz35_5, hfz35_6, hfz35_7, hfz35_8⟩ := bc9 BK249) | ((first | ((with_reducible refine gate_callee (f := 61) rfl ?_); refine bC (some 19) Try.func61 #[.int .i64 a0_4, .int .i64 0, .int .i64 1024] ?_) | go_at_call 61); (with_reducible refine (rules_within_int64.calls a0_4 0 1024 true _ A11.out).mono ?_); rintro e w' ⟨rfl, ⟨nd, rfl⟩⟩; (first | refine ⟨_, rfl, ?_⟩ | skip)) | ((first | ((with_reducible refine gate_callee (f := 61) rfl ?_); refine bC (some 24) Try.func61 #[.int .i64 a0_5, .int .i64 1, .int .i64 65536] ?_) | go_at_call 61); (with_reducible refine (rules_within_int64.calls a0_5 1 65536 true _ A13.out).mono ?_); rintro e w' ⟨rfl, ⟨nd, rfl⟩⟩; (first | refine ⟨_, rfl, ?_⟩ | skip)) | ((first | ((with_reducible refine gate_callee (f := 57) rfl ?_); refine bC (some 29) Try.func57 #[.int .i64 a0_6, .int .i64 1, .int .i64 50] ?_) | go_at_call 57); (with_reducible refine (rules_within_int.calls a0_6 1 50 true _ A15.out).mono ?_); rintro e w' ⟨rfl, ⟨nd, rfl⟩⟩; (first | refine ⟨_, rfl, ?_⟩ | skip)) | ((first | ((with_reducible refine gate_callee (f := 61) rfl ?_); refine bC (some 34) Try.func61 #[.int .i64 a0_7, .int .i64 1, .int .i64 1073741824] ?_) | go_at_call 61); (with_reducible refine (rules_within_int64.calls a0_7 1 1073741824 false _ A17.out).mono ?_); rintro e w' ⟨rfl, ⟨nd, rfl⟩⟩; (first | refine ⟨_, rfl, ?_⟩ | skip)))
  go_ret
  exact bF
 subst c18
 rw [if_pos rfl] at H
 replace H := Option.bind_eq_some_iff.mp H
 obtain ⟨t257, A190, H⟩ := H
 have A19 := bA A190
 clear A190
 by_cases c20 : t257 = true
 ·subst c20
  rw [if_pos rfl] at H
  obtain rfl := Option.some.inj H
  go_enter Try.func18, Try.ntmps18
  go_wp2_with (first | ((with_reducible refine gate_dst (N := 1) rfl ?_); refine bE (N := 1) (cs := #[.slice A0_0 l0_0.length c0_0, .int .i64 a0_1, .int .i64 a0_2, .int .i64 a0_3, .int .i64 a0_4, .int .i64 a0_5, .int .i64 a0_6, .int .i64 a0_7, .int .i64 a0_8]) (t := 24) ?_; intro gb249 hg w21 hbox hb; have BK249 := bA (hbox); have GW249 := bA (bZ hg); have GE249 := bA (bZ hg); replace HB := bA (bS hb); clear hb hbox hg; obtain ⟨hcz22_0, hcz22_1, hcz22_2, hcz22_3, hcz22_4, hcz22_5, hcz22_6, hcz22_7, hcz22_8, hfz22_0, hfz22_1, hfz22_2, hfz22_3, hfz22_4, hfz22_5, hfz22_6, hfz22_7, hfz22_8⟩ := bc9 BK249) | ((first | ((with_reducible refine gate_callee (f := 57) rfl ?_); refine bC (some 7) Try.func57 #[.int .i64 (l0_0.length : Int), .int .i64 1, .int .i64 4] ?_) | go_at_call 57); (with_reducible refine (rules_within_int.calls (l0_0.length : Int) 1 4 true _ A2.out).mono ?_); rintro e w' ⟨rfl, ⟨nd, rfl⟩⟩; (first | refine ⟨_, rfl, ?_⟩ | skip)) | ((first | ((with_reducible refine gate_callee (f := 58) rfl ?_); refine bC (some 12) Try.func58 #[.slice A0_0 l0_0.length c0_0, .func (.func 59) #[] #[]] ?_) | go_at_call 58); (with_reducible refine (slices_ContainsFunc_Phase_F_rules_Wrong_1.calls k _ _ l0_0  false _ ?side1 ?side2 A4.out).mono ?_); (case side1 => repeat (first | exact (Kd.C_below HR0_0.out bX) | (with_reducible refine Kd.C_alloc ?_ _) | (with_reducible refine Kd.C_drewN ?_ _) | (with_reducible refine Kd.C_drew ?_))); (case side2 => exact HC0_0.out); rintro e w23 ⟨rfl, hb⟩; (first | refine ⟨_, rfl, ?_⟩ | skip); replace BK249 := bA (bB BK249 hb); replace HB := bA (bS hb); (try clear hb)) | ((first | ((with_reducible refine gate_callee (f := 60) rfl ?_); refine bC (some 14) Try.func60 #[.pointer (some ⟨gb249, 0, none⟩)] ?_) | go_at_call 60); (with_reducible refine (rules_limits.calls gb249 ?vz0 a0_1 a0_2 a0_3 a0_4 a0_5 a0_6 a0_7 a0_8 true _ ?side1 A9.out).mono ?_); (case side1 => exact (bP BK249)); rintro e w24 ⟨rfl, hb⟩; (first | refine ⟨_, rfl, ?_⟩ | skip); replace BK249 := bA (bB BK249 hb); replace HB := bA (bS hb); (try clear hb); obtain ⟨hcz25_0, hcz25_1, hcz25_2, hcz25_3, hcz25_4, hcz25_5, hcz25_6, hcz25_7, hcz25_8, hfz25_0, hfz25_1, hfz25_2, hfz25_3, hfz25_4, hfz25_5, hfz25_6, hfz25_7, hfz25_8⟩ := bc9 BK249) | ((first | ((with_reducible refine gate_callee (f := 61) rfl ?_); refine bC (some 19) Try.func61 #[.int .i64 a0_4, .int .i64 0, .int .i64 1024] ?_) | go_at_call 61); (with_reducible refine (rules_within_int64.calls a0_4 0 1024 true _ A11.out).mono ?_); rintro e w' ⟨rfl, ⟨nd, rfl⟩⟩; (first | refine ⟨_, rfl, ?_⟩ | skip)) | ((first | ((with_reducible refine gate_callee (f := 61) rfl ?_); refine bC (some 24) Try.func61 #[.int .i64 a0_5, .int .i64 1, .int .i64 65536] ?_) | go_at_call 61); (with_reducible refine (rules_within_int64.calls a0_5 1 65536 true _ A13.out).mono ?_); rintro e w' ⟨rfl, ⟨nd, rfl⟩⟩; (first | refine ⟨_, rfl, ?_⟩ | skip)) | ((first | ((with_reducible refine gate_callee (f := 57) rfl ?_); refine bC (some 29) Try.func57 #[.int .i64 a0_6, .int .i64 1, .int .i64 50] ?_) | go_at_call 57); (with_reducible refine (rules_within_int.calls a0_6 1 50 true _ A15.out).mono ?_); rintro e w' ⟨rfl, ⟨nd, rfl⟩⟩; (first | refine ⟨_, rfl, ?_⟩ | skip)) | ((first | ((with_reducible refine gate_callee (f := 61) rfl ?_); refine bC (some 34) Try.func61 #[.int .i64 a0_7, .int .i64 1, .int .i64 1073741824] ?_) | go_at_call 61); (with_reducible refine (rules_within_int64.calls a0_7 1 1073741824 true _ A17.out).mono ?_); rintro e w' ⟨rfl, ⟨nd, rfl⟩⟩; (first | refine ⟨_, rfl, ?_⟩ | skip)) | ((first | ((with_reducible refine gate_callee (f := 57) rfl ?_); refine bC (some 42) Try.func57 #[.int .i64 a0_8, .int .i64 0, .int .i64 (l0_0.length : Int)] ?_) | go_at_call 57); (with_reducible refine (rules_within_int.calls a0_8 0 (l0_0.length : Int) true _ A19.out).mono ?_); rintro e w' ⟨rfl, ⟨nd, rfl⟩⟩; (first | refine ⟨_, rfl, ?_⟩ | skip)))
  go_ret
  exact bF
 replace c20 := Bool.eq_false_iff.mpr c20
 subst c20
 rw [if_neg bn] at H
 obtain rfl := Option.some.inj H
 go_enter Try.func18, Try.ntmps18
 go_wp2_with (first | ((with_reducible refine gate_dst (N := 1) rfl ?_); refine bE (N := 1) (cs := #[.slice A0_0 l0_0.length c0_0, .int .i64 a0_1, .int .i64 a0_2, .int .i64 a0_3, .int .i64 a0_4, .int .i64 a0_5, .int .i64 a0_6, .int .i64 a0_7, .int .i64 a0_8]) (t := 24) ?_; intro gb249 hg w26 hbox hb; have BK249 := bA (hbox); have GW249 := bA (bZ hg); have GE249 := bA (bZ hg); replace HB := bA (bS hb); clear hb hbox hg; obtain ⟨hcz27_0, hcz27_1, hcz27_2, hcz27_3, hcz27_4, hcz27_5, hcz27_6, hcz27_7, hcz27_8, hfz27_0, hfz27_1, hfz27_2, hfz27_3, hfz27_4, hfz27_5, hfz27_6, hfz27_7, hfz27_8⟩ := bc9 BK249) | ((first | ((with_reducible refine gate_callee (f := 57) rfl ?_); refine bC (some 7) Try.func57 #[.int .i64 (l0_0.length : Int), .int .i64 1, .int .i64 4] ?_) | go_at_call 57); (with_reducible refine (rules_within_int.calls (l0_0.length : Int) 1 4 true _ A2.out).mono ?_); rintro e w' ⟨rfl, ⟨nd, rfl⟩⟩; (first | refine ⟨_, rfl, ?_⟩ | skip)) | ((first | ((with_reducible refine gate_callee (f := 58) rfl ?_); refine bC (some 12) Try.func58 #[.slice A0_0 l0_0.length c0_0, .func (.func 59) #[] #[]] ?_) | go_at_call 58); (with_reducible refine (slices_ContainsFunc_Phase_F_rules_Wrong_1.calls k _ _ l0_0  false _ ?side1 ?side2 A4.out).mono ?_); (case side1 => repeat (first | exact (Kd.C_below HR0_0.out bX) | (with_reducible refine Kd.C_alloc ?_ _) | (with_reducible refine Kd.C_drewN ?_ _) | (with_reducible refine Kd.C_drew ?_))); (case side2 => exact HC0_0.out); rintro e w28 ⟨rfl, hb⟩; (first | refine ⟨_, rfl, ?_⟩ | skip); replace BK249 := bA (bB BK249 hb); replace HB := bA (bS hb); (try clear hb)) | ((first | ((with_reducible refine gate_callee (f := 60) rfl ?_); refine bC (some 14) Try.func60 #[.pointer (some ⟨gb249, 0, none⟩)] ?_) | go_at_call 60); (with_reducible refine (rules_limits.calls gb249 ?vz0 a0_1 a0_2 a0_3 a0_4 a0_5 a0_6 a0_7 a0_8 true _ ?side1 A9.out).mono ?_); (case side1 => exact (bP BK249)); rintro e w29 ⟨rfl, hb⟩; (first | refine ⟨_, rfl, ?_⟩ | skip); replace BK249 := bA (bB BK249 hb); replace HB := bA (bS hb); (try clear hb); obtain ⟨hcz30_0, hcz30_1, hcz30_2, hcz30_3, hcz30_4, hcz30_5, hcz30_6, hcz30_7, hcz30_8, hfz30_0, hfz30_1, hfz30_2, hfz30_3, hfz30_4, hfz30_5, hfz30_6, hfz30_7, hfz30_8⟩ := bc9 BK249) | ((first | ((with_reducible refine gate_callee (f := 61) rfl ?_); refine bC (some 19) Try.func61 #[.int .i64 a0_4, .int .i64 0, .int .i64 1024] ?_) | go_at_call 61); (with_reducible refine (rules_within_int64.calls a0_4 0 1024 true _ A11.out).mono ?_); rintro e w' ⟨rfl, ⟨nd, rfl⟩⟩; (first | refine ⟨_, rfl, ?_⟩ | skip)) | ((first | ((with_reducible refine gate_callee (f := 61) rfl ?_); refine bC (some 24) Try.func61 #[.int .i64 a0_5, .int .i64 1, .int .i64 65536] ?_) | go_at_call 61); (with_reducible refine (rules_within_int64.calls a0_5 1 65536 true _ A13.out).mono ?_); rintro e w' ⟨rfl, ⟨nd, rfl⟩⟩; (first | refine ⟨_, rfl, ?_⟩ | skip)) | ((first | ((with_reducible refine gate_callee (f := 57) rfl ?_); refine bC (some 29) Try.func57 #[.int .i64 a0_6, .int .i64 1, .int .i64 50] ?_) | go_at_call 57); (with_reducible refine (rules_within_int.calls a0_6 1 50 true _ A15.out).mono ?_); rintro e w' ⟨rfl, ⟨nd, rfl⟩⟩; (first | refine ⟨_, rfl, ?_⟩ | skip)) | ((first | ((with_reducible refine gate_callee (f := 61) rfl ?_); refine bC (some 34) Try.func61 #[.int .i64 a0_7, .int .i64 1, .int .i64 1073741824] ?_) | go_at_call 61); (with_reducible refine (rules_within_int64.calls a0_7 1 1073741824 true _ A17.out).mono ?_); rintro e w' ⟨rfl, ⟨nd, rfl⟩⟩; (first | refine ⟨_, rfl, ?_⟩ | skip)) | ((first | ((with_reducible refine gate_callee (f := 57) rfl ?_); refine bC (some 42) Try.func57 #[.int .i64 a0_8, .int .i64 0, .int .i64 (l0_0.length : Int)] ?_) | go_at_call 57); (with_reducible refine (rules_within_int.calls a0_8 0 (l0_0.length : Int) false _ A19.out).mono ?_); rintro e w' ⟨rfl, ⟨nd, rfl⟩⟩; (first | refine ⟨_, rfl, ?_⟩ | skip)))
 go_ret
 exact bF

/-! ### rules_Right: function 19 -/
def rules_Right.f (k : Nat) (l0_0 : List (S30)) (a0_1 : Int) (a0_2 : Int) (a0_3 : Int) (a0_4 : Int) (a0_5 : Int) (a0_6 : Int) (a0_7 : Int) (a0_8 : Int) : Option (Bool) := (rules_Wrong.f k l0_0 a0_1 a0_2 a0_3 a0_4 a0_5 a0_6 a0_7 a0_8).bind fun t259 => (some (t259 == 0))
theorem rules_Right.mono : ∀ a0 a1 a2 a3 a4 a5 a6 a7 a8 k, LeO (rules_Right.f k a0 a1 a2 a3 a4 a5 a6 a7 a8) (rules_Right.f (k + 1) a0 a1 a2 a3 a4 a5 a6 a7 a8) := by
 intro a0 a1 a2 a3 a4 a5 a6 a7 a8 k
 unfold rules_Right.f
 have m0_ := @rules_Wrong.mono
 exact bMo
set_option maxHeartbeats 8000000 in
set_option maxRecDepth 100000 in
theorem rules_Right.calls (k : Nat) (A0_0 : Option Addr) (c0_0 : Nat) (l0_0 : List (S30)) (a0_1 : Int) (a0_2 : Int) (a0_3 : Int) (a0_4 : Int) (a0_5 : Int) (a0_6 : Int) (a0_7 : Int) (a0_8 : Int) (r : Bool) (w : World) (hr0_0 : Kd.C k30 w A0_0 l0_0.length l0_0) (hc0_0 : l0_0.length ≤ c0_0) (h : rules_Right.f k l0_0 a0_1 a0_2 a0_3 a0_4 a0_5 a0_6 a0_7 a0_8 = some r) :
  Calls Try.prog 19 #[.agg #[.slice A0_0 l0_0.length c0_0, .int .i64 a0_1, .int .i64 a0_2, .int .i64 a0_3, .int .i64 a0_4, .int .i64 a0_5, .int .i64 a0_6, .int .i64 a0_7, .int .i64 a0_8]] w fun e w' => e = .returned (.bool r) ∧ Below w.heap.size w w' := by
 have hu24 := Try.underlying24
 have HR0_0 := bA hr0_0
 have HC0_0 := bA hc0_0
 clear hr0_0 hc0_0
 have HB := bA (Below.refl w.heap.size w)
 have H : ((rules_Wrong.f k l0_0 a0_1 a0_2 a0_3 a0_4 a0_5 a0_6 a0_7 a0_8).bind fun t259 => (some (t259 == 0))) = some r := h
 clear h
 replace H := Option.bind_eq_some_iff.mp H
 obtain ⟨t259, A20, H⟩ := H
 have A2 := bA A20
 clear A20
 obtain rfl := Option.some.inj H
 go_enter Try.func19, Try.ntmps19
 go_wp2_with (first | ((with_reducible refine gate_dst (N := 1) rfl ?_); refine bE (N := 1) (cs := #[.slice A0_0 l0_0.length c0_0, .int .i64 a0_1, .int .i64 a0_2, .int .i64 a0_3, .int .i64 a0_4, .int .i64 a0_5, .int .i64 a0_6, .int .i64 a0_7, .int .i64 a0_8]) (t := 24) ?_; intro gb258 hg w3 hbox hb; have BK258 := bA (hbox); have GW258 := bA (bZ hg); have GE258 := bA (bZ hg); replace HB := bA (bS hb); clear hb hbox hg; obtain ⟨hcz4_0, hcz4_1, hcz4_2, hcz4_3, hcz4_4, hcz4_5, hcz4_6, hcz4_7, hcz4_8, hfz4_0, hfz4_1, hfz4_2, hfz4_3, hfz4_4, hfz4_5, hfz4_6, hfz4_7, hfz4_8⟩ := bc9 BK258) | ((first | ((with_reducible refine gate_callee (f := 18) rfl ?_); refine bC (some 4) Try.func18 #[.agg #[.slice A0_0 l0_0.length c0_0, .int .i64 a0_1, .int .i64 a0_2, .int .i64 a0_3, .int .i64 a0_4, .int .i64 a0_5, .int .i64 a0_6, .int .i64 a0_7, .int .i64 a0_8]] ?_) | go_at_call 18); (with_reducible refine (rules_Wrong.calls k _ _ l0_0 a0_1 a0_2 a0_3 a0_4 a0_5 a0_6 a0_7 a0_8 t259 _ ?side1 ?side2 A2.out).mono ?_); (case side1 => exact bQ HR0_0); (case side2 => exact HC0_0.out); rintro e w5 ⟨rfl, hb⟩; (first | refine ⟨_, rfl, ?_⟩ | skip); replace BK258 := bA (bB BK258 hb); replace HB := bA (bS hb); (try clear hb)))
 go_ret
 exact bF
end Go.Proofs.Ytjmibjmlihmglaa.G
