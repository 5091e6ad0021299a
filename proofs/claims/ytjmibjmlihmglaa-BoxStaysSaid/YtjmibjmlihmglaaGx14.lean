-- Written by a program of this session out of the translation; Lean checks it.
import Derived.Test.YtjmibjmlihmglaaGx0
import Derived.Test.YtjmibjmlihmglaaGx2
import Derived.Test.YtjmibjmlihmglaaGx5
import Derived.Test.YtjmibjmlihmglaaGx6
import Derived.Test.YtjmibjmlihmglaaGx7
import Derived.Test.YtjmibjmlihmglaaGx8
import Derived.Test.YtjmibjmlihmglaaGx9
import Derived.Test.YtjmibjmlihmglaaGx13
namespace Go.Proofs.Ytjmibjmlihmglaa.G
open Go.RowKit Go.Proofs.YtjmibjmlihmglaaW.PrintWords Go.Proofs.YtjmibjmlihmglaaW.PrintLast Go.Proofs.YtjmibjmlihmglaaW.PrintMore
attribute [local go_sem] max2_int min2_int max_two min_two max_three min_three max_four min_four   -- for this text's walks alone
set_option linter.unusedVariables false
set_option linter.unusedSimpArgs false

attribute [local go_sem high] eqA44
/-! ### apogeelaw12_awake: function 44 -/
def apogeelaw12_awake.f (k : Nat)  : Option (Bool) := (some (([(⟨0, 0⟩ : S41), (⟨4, 0⟩ : S41), (⟨4, 4⟩ : S41), (⟨0, 4⟩ : S41)] : List (S41)) : List (S41))).bind fun y296 => ((apogeelaw12_of.f 1 1 2 2).bind fun bt299 => ((box_Grow.f k bt299.1 bt299.2.1 bt299.2.2.1 bt299.2.2.2 1).bind fun bt303 => ((apogeelaw12_of.f 1 1 2 2).bind fun bt309 => ((box_Grow.f k bt309.1 bt309.2.1 bt309.2.2.1 bt309.2.2.2 (-1)).bind fun bt313 => ((apogeelaw12_of.f 1 1 2 2).bind fun bt319 => ((box_Right.f bt319.1 bt319.2.1 bt319.2.2.1 bt319.2.2.2).bind fun t323 => (if t323 = true then ((apogeelaw12_of.f 2 1 1 2).bind fun bt324 => ((box_Right.f bt324.1 bt324.2.1 bt324.2.2.1 bt324.2.2.2).bind fun t328 => (if t328 = true then (none) else ((box_Of.f 5 0 2).bind fun bt329 => ((apogeelaw12_of.f 3 (-2) 7 2).bind fun bt333 => (if ((bt329.1 == bt333.1 && (bt329.2.1 == bt333.2.1)) && ((bt329.2.2.1 == bt333.2.2.1 && (bt329.2.2.2 == bt333.2.2.2)))) = true then ((apogeelaw12_of.f 1 1 2 2).bind fun bt337 => ((box_Has.f bt337.1 bt337.2.1 bt337.2.2.1 bt337.2.2.2 2 1).bind fun t341 => (if t341 = true then ((apogeelaw12_of.f 1 1 2 2).bind fun bt342 => ((apogeelaw12_of.f 0 1 3 3).bind fun bt346 => ((box_In.f bt342.1 bt342.2.1 bt342.2.2.1 bt342.2.2.2 bt346.1 bt346.2.1 bt346.2.2.1 bt346.2.2.2).bind fun t350 => (if t350 = true then ((apogeelaw12_of.f 0 1 3 3).bind fun bt351 => ((apogeelaw12_of.f 1 1 2 2).bind fun bt355 => ((box_In.f bt351.1 bt351.2.1 bt351.2.2.1 bt351.2.2.2 bt355.1 bt355.2.1 bt355.2.2.1 bt355.2.2.2).bind fun t359 => (if t359 = true then (none) else ((apogeelaw12_of.f 0 0 1 1).bind fun bt360 => ((apogeelaw12_of.f 3 3 4 4).bind fun bt364 => ((box_Join.f k bt360.1 bt360.2.1 bt360.2.2.1 bt360.2.2.2 bt364.1 bt364.2.1 bt364.2.2.1 bt364.2.2.2).bind fun bt368 => ((apogeelaw12_of.f 0 0 4 4).bind fun bt372 => (if ((bt368.1 == bt372.1 && (bt368.2.1 == bt372.2.1)) && ((bt368.2.2.1 == bt372.2.2.1 && (bt368.2.2.2 == bt372.2.2.2)))) = true then ((apogeelaw12_of.f 0 0 3 3).bind fun bt376 => (if ((bt303.1 == bt376.1 && (bt303.2.1 == bt376.2.1)) && ((bt303.2.2.1 == bt376.2.2.1 && (bt303.2.2.2.1 == bt376.2.2.2)))) = true then (if bt303.2.2.2.2 = true then (if bt313.2.2.2.2 = true then (none) else ((apogeelaw12_of.f 1 1 2 2).bind fun bt380 => ((box_Meets.f k bt380.1 bt380.2.1 bt380.2.2.1 bt380.2.2.2 0 0 3 3).bind fun t384 => (if t384 = true then ((apogeelaw12_of.f 1 1 2 2).bind fun bt385 => ((box_Meets.f k bt385.1 bt385.2.1 bt385.2.2.1 bt385.2.2.2 0 0 3 0).bind fun t389 => (if t389 = true then (none) else ((apogeelaw12_of.f 1 1 2 2).bind fun bt390 => ((box_Relate.f k bt390.1 bt390.2.1 bt390.2.2.1 bt390.2.2.2 y296).bind fun t394 => (if t394 = 1 then ((apogeelaw12_of.f 3 3 5 5).bind fun bt395 => ((box_Relate.f k bt395.1 bt395.2.1 bt395.2.2.1 bt395.2.2.2 y296).bind fun t399 => (if t399 = 0 then ((apogeelaw12_of.f 6 6 7 7).bind fun bt400 => ((box_Relate.f k bt400.1 bt400.2.1 bt400.2.2.1 bt400.2.2.2 y296).bind fun t404 => (if t404 = (-1) then ((apogeelaw12_of.f 1 1 2 2).bind fun bt405 => ((box_Corners.f bt405.1 bt405.2.1 bt405.2.2.1 bt405.2.2.2).bind fun t409 => (some ((t409.length : Int) == 4)))) else (none)))) else (none)))) else (none))))))) else (none))))) else (none)) else (none))) else (none)))))))))) else (none))))) else (none)))) else (none))))))) else (none))))))))
theorem apogeelaw12_awake.mono : ∀ k, LeO (apogeelaw12_awake.f k ) (apogeelaw12_awake.f (k + 1) ) := by
 intro  k
 unfold apogeelaw12_awake.f
 repeat' first
   | (with_reducible exact box_Grow.mono _ _ _ _ _ _)
   | (with_reducible exact box_Join.mono _ _ _ _ _ _ _ _ _)
   | (with_reducible exact box_Meets.mono _ _ _ _ _ _ _ _ _)
   | (with_reducible exact box_Relate.mono _ _ _ _ _ _)
   | (with_reducible exact LeO.refl _)
   | (with_reducible exact LeO.none _)
   | (with_reducible refine LeO.ite ?_ ?_)
   | (with_reducible refine LeO.bind ?_ (fun _ => ?_))
   | exact box_Grow.mono _ _ _ _ _ _
   | exact box_Join.mono _ _ _ _ _ _ _ _ _
   | exact box_Meets.mono _ _ _ _ _ _ _ _ _
   | exact box_Relate.mono _ _ _ _ _ _
   | exact LeO.none _
   | refine LeO.ite ?_ ?_
   | refine LeO.bind ?_ (fun _ => ?_)
def apogeelaw12_awake.T4 : Bool × List (List Nat × List Nat) := (true, [([], []), ([0, 0], [0]), ([1, 1], [1]), ([2, 2], [2]), ([3, 3, 2], [2, 3]), ([4, 2], [2, 4]), ([2, 5], [2, 5]), ([6, 4], [6]), ([7], [7]), ([8, 7, 7], [7, 8]), ([9, 7], [7]), ([9, 10, 7], [7, 9, 10]), ([7, 11], [7, 11]), ([12, 10], [12]), ([13, 13], [13]), ([13], [13]), ([14, 15, 14, 13], [13, 14, 15]), ([13, 16], [13, 16]), ([17, 16], [17]), ([18, 18], [18]), ([19, 18], [18]), ([19, 20, 20, 18], [18, 19, 20]), ([18, 21], [18, 21]), ([22, 21], [22]), ([23, 23], [23]), ([24, 23], [23]), ([24, 25, 25, 23], [23, 24, 25]), ([26, 23], [23, 26]), ([23, 27], [23, 27]), ([28, 26], [28]), ([29, 29], [29]), ([30, 29], [29]), ([30, 31, 31, 29], [29, 30, 31]), ([32, 29], [29]), ([32, 33, 29], [29, 32, 33]), ([29, 34], [29, 34]), ([35, 33], [35]), ([36], [36]), ([36, 36], [36]), ([37, 38, 36], [36, 37, 38]), ([36, 39], [36, 39]), ([40, 38], [40]), ([41], [41]), ([41, 42], [41, 42]), ([43, 41], [43]), ([44], [44]), ([45, 44], [44, 45]), ([44, 46], [44, 46]), ([47, 44], [47]), ([48, 48], [48]), ([48], [48]), ([48], [48]), ([49, 50, 51, 49, 48], [48, 49, 50, 51]), ([48, 52], [48, 52]), ([53, 52], [53]), ([54, 54], [54]), ([54], [54]), ([54], [54]), ([55, 56, 57, 55, 54], [54, 55, 56, 57]), ([58, 54], [54, 58]), ([54, 59], [54, 59]), ([60, 58], [60]), ([61, 61], [61]), ([61], [61]), ([62, 63, 62, 61], [61, 62, 63]), ([64, 61], [61, 64]), ([61, 65], [61, 65]), ([66, 64], [66]), ([67, 67], [67]), ([67], [67]), ([68, 69, 68, 67], [67, 68, 69]), ([70, 67], [67, 70]), ([67, 71], [67, 71]), ([72, 70], [72]), ([73, 73], [73]), ([73], [73]), ([74, 75, 74, 73], [73, 74, 75]), ([76, 73], [73, 76]), ([73, 77], [73, 77]), ([78, 76], [78]), ([79, 79], [79]), ([80, 80, 79], [79, 80]), ([81, 79], [79, 81]), ([82, 79], [79, 82]), ([79, 83], [79, 83]), ([84, 81, 0, 1, 2, 3, 4, 5, 6, 7, 8, 9, 10, 11, 12, 13, 14, 15, 16, 17, 18, 19, 20, 21, 22, 23, 24, 25, 26, 27, 28, 29, 30, 31, 32, 33, 34, 35, 36, 37, 38, 39, 40, 41, 42, 43, 44, 45, 46, 47, 48, 49, 50, 51, 52, 53, 54, 55, 56, 57, 58, 59, 60, 61, 62, 63, 64, 65, 66, 67, 68, 69, 70, 71, 72, 73, 74, 75, 76, 77, 78, 79, 80, 81, 82, 83, 84], [84])])
def apogeelaw12_awake.B4 : List Nat := [0, 1, 3, 7, 15, 31, 63, 127, 255, 511, 1023, 2047, 4095, 8191, 16383, 16383, 65535, 131071, 262143, 524287, 1048575, 2097151, 4194303, 8388607, 16777215, 33554431, 67108863, 134217727, 268435455, 536870911, 1073741823, 2147483647, 4294967295, 8589934591, 17179869183, 34359738367, 68719476735, 137438953471, 137438953471, 549755813887, 1099511627775, 2199023255551, 4398046511103, 8796093022207, 17592186044415, 35184372088831, 70368744177663, 140737488355327, 281474976710655, 562949953421311, 562949953421311, 562949953421311, 4503599627370495, 9007199254740991, 18014398509481983, 36028797018963967, 36028797018963967, 36028797018963967, 288230376151711743, 576460752303423487, 1152921504606846975, 2305843009213693951, 4611686018427387903, 4611686018427387903, 18446744073709551615, 36893488147419103231, 73786976294838206463, 147573952589676412927, 295147905179352825855, 295147905179352825855, 1180591620717411303423, 2361183241434822606847, 4722366482869645213695, 9444732965739290427391, 18889465931478580854783, 18889465931478580854783, 75557863725914323419135, 151115727451828646838271, 302231454903657293676543, 604462909807314587353087, 1208925819614629174706175, 2417851639229258349412351, 4835703278458516698824703, 9671406556917033397649407, 19342813113834066795298815, 38685626227668133590597631]
theorem apogeelaw12_awake.tab4 : rtab .any (opsOf Try.f44 4) = apogeelaw12_awake.T4 := by kernel_rfl
theorem apogeelaw12_awake.bits4 : waitsOk apogeelaw12_awake.T4.2 apogeelaw12_awake.B4 = true := by kernel_rfl
set_option maxHeartbeats 8000000 in
set_option maxRecDepth 100000 in
theorem apogeelaw12_awake.calls (k : Nat)  (r : Bool) (w : World) (h : apogeelaw12_awake.f k  = some r) :
  Calls Try.prog 44 #[] w fun e w' => e = .returned (.bool r) ∧ Below w.heap.size w w' := by
 have hu41 := Try.underlying41
 have hu44 := Try.underlying44
 have HB := bA (Below.refl w.heap.size w)
 have H : ((some (([(⟨0, 0⟩ : S41), (⟨4, 0⟩ : S41), (⟨4, 4⟩ : S41), (⟨0, 4⟩ : S41)] : List (S41)) : List (S41))).bind fun y296 => ((apogeelaw12_of.f 1 1 2 2).bind fun bt299 => ((box_Grow.f k bt299.1 bt299.2.1 bt299.2.2.1 bt299.2.2.2 1).bind fun bt303 => ((apogeelaw12_of.f 1 1 2 2).bind fun bt309 => ((box_Grow.f k bt309.1 bt309.2.1 bt309.2.2.1 bt309.2.2.2 (-1)).bind fun bt313 => ((apogeelaw12_of.f 1 1 2 2).bind fun bt319 => ((box_Right.f bt319.1 bt319.2.1 bt319.2.2.1 bt319.2.2.2).bind fun t323 => (if t323 = true then ((apogeelaw12_of.f 2 1 1 2).bind fun bt324 => ((box_Right.f bt324.1 bt324.2.1 bt324.2.2.1 bt324.2.2.2).bind fun t328 => (if t328 = true then (none) else ((box_Of.f 5 0 2).bind fun bt329 => ((apogeelaw12_of.f 3 (-2) 7 2).bind fun bt333 => (if ((bt329.1 == bt333.1 && (bt329.2.1 == bt333.2.1)) && ((bt329.2.2.1 == bt333.2.2.1 && (bt329.2.2.2 == bt333.2.2.2)))) = true then ((apogeelaw12_of.f 1 1 2 2).bind fun bt337 => ((box_Has.f bt337.1 bt337.2.1 bt337.2.2.1 bt337.2.2.2 2 1).bind fun t341 => (if t341 = true then ((apogeelaw12_of.f 1 1 2 2).bind fun bt342 => ((apogeelaw12_of.f 0 1 3 3).bind fun bt346 => ((box_In.f bt342.1 bt342.2.1 bt342.2.2.1 bt342.2.2.2 bt346.1 bt346.2.1 bt346.2.2.1 bt346.2.2.2).bind fun t350 => (if t350 = true then ((apogeelaw12_of.f 0 1 3 3).bind fun bt351 => ((apogeelaw12_of.f 1 1 2 2).bind fun bt355 => ((box_In.f bt351.1 bt351.2.1 bt351.2.2.1 bt351.2.2.2 bt355.1 bt355.2.1 bt355.2.2.1 bt355.2.2.2).bind fun t359 => (if t359 = true then (none) else ((apogeelaw12_of.f 0 0 1 1).bind fun bt360 => ((apogeelaw12_of.f 3 3 4 4).bind fun bt364 => ((box_Join.f k bt360.1 bt360.2.1 bt360.2.2.1 bt360.2.2.2 bt364.1 bt364.2.1 bt364.2.2.1 bt364.2.2.2).bind fun bt368 => ((apogeelaw12_of.f 0 0 4 4).bind fun bt372 => (if ((bt368.1 == bt372.1 && (bt368.2.1 == bt372.2.1)) && ((bt368.2.2.1 == bt372.2.2.1 && (bt368.2.2.2 == bt372.2.2.2)))) = true then ((apogeelaw12_of.f 0 0 3 3).bind fun bt376 => (if ((bt303.1 == bt376.1 && (bt303.2.1 == bt376.2.1)) && ((bt303.2.2.1 == bt376.2.2.1 && (bt303.2.2.2.1 == bt376.2.2.2)))) = true then (if bt303.2.2.2.2 = true then (if bt313.2.2.2.2 = true then (none) else ((apogeelaw12_of.f 1 1 2 2).bind fun bt380 => ((box_Meets.f k bt380.1 bt380.2.1 bt380.2.2.1 bt380.2.2.2 0 0 3 3).bind fun t384 => (if t384 = true then ((apogeelaw12_of.f 1 1 2 2).bind fun bt385 => ((box_Meets.f k bt385.1 bt385.2.1 bt385.2.2.1 bt385.2.2.2 0 0 3 0).bind fun t389 => (if t389 = true then (none) else ((apogeelaw12_of.f 1 1 2 2).bind fun bt390 => ((box_Relate.f k bt390.1 bt390.2.1 bt390.2.2.1 bt390.2.2.2 y296).bind fun t394 => (if t394 = 1 then ((apogeelaw12_of.f 3 3 5 5).bind fun bt395 => ((box_Relate.f k bt395.1 bt395.2.1 bt395.2.2.1 bt395.2.2.2 y296).bind fun t399 => (if t399 = 0 then ((apogeelaw12_of.f 6 6 7 7).bind fun bt400 => ((box_Relate.f k bt400.1 bt400.2.1 bt400.2.2.1 bt400.2.2.2 y296).bind fun t404 => (if t404 = (-1) then ((apogeelaw12_of.f 1 1 2 2).bind fun bt405 => ((box_Corners.f bt405.1 bt405.2.1 bt405.2.2.1 bt405.2.2.2).bind fun t409 => (some ((t409.length : Int) == 4)))) else (none)))) else (none)))) else (none))))))) else (none))))) else (none)) else (none))) else (none)))))))))) else (none))))) else (none)))) else (none))))))) else (none))))))))) = some r := h
 clear h
 obtain ⟨y296, hy296⟩ : ∃ y_ : List (S41), y_ = (([(⟨0, 0⟩ : S41), (⟨4, 0⟩ : S41), (⟨4, 4⟩ : S41), (⟨0, 4⟩ : S41)] : List (S41))) := ⟨_, rfl⟩
 replace H : ((apogeelaw12_of.f 1 1 2 2).bind fun bt299 => ((box_Grow.f k bt299.1 bt299.2.1 bt299.2.2.1 bt299.2.2.2 1).bind fun bt303 => ((apogeelaw12_of.f 1 1 2 2).bind fun bt309 => ((box_Grow.f k bt309.1 bt309.2.1 bt309.2.2.1 bt309.2.2.2 (-1)).bind fun bt313 => ((apogeelaw12_of.f 1 1 2 2).bind fun bt319 => ((box_Right.f bt319.1 bt319.2.1 bt319.2.2.1 bt319.2.2.2).bind fun t323 => (if t323 = true then ((apogeelaw12_of.f 2 1 1 2).bind fun bt324 => ((box_Right.f bt324.1 bt324.2.1 bt324.2.2.1 bt324.2.2.2).bind fun t328 => (if t328 = true then (none) else ((box_Of.f 5 0 2).bind fun bt329 => ((apogeelaw12_of.f 3 (-2) 7 2).bind fun bt333 => (if ((bt329.1 == bt333.1 && (bt329.2.1 == bt333.2.1)) && ((bt329.2.2.1 == bt333.2.2.1 && (bt329.2.2.2 == bt333.2.2.2)))) = true then ((apogeelaw12_of.f 1 1 2 2).bind fun bt337 => ((box_Has.f bt337.1 bt337.2.1 bt337.2.2.1 bt337.2.2.2 2 1).bind fun t341 => (if t341 = true then ((apogeelaw12_of.f 1 1 2 2).bind fun bt342 => ((apogeelaw12_of.f 0 1 3 3).bind fun bt346 => ((box_In.f bt342.1 bt342.2.1 bt342.2.2.1 bt342.2.2.2 bt346.1 bt346.2.1 bt346.2.2.1 bt346.2.2.2).bind fun t350 => (if t350 = true then ((apogeelaw12_of.f 0 1 3 3).bind fun bt351 => ((apogeelaw12_of.f 1 1 2 2).bind fun bt355 => ((box_In.f bt351.1 bt351.2.1 bt351.2.2.1 bt351.2.2.2 bt355.1 bt355.2.1 bt355.2.2.1 bt355.2.2.2).bind fun t359 => (if t359 = true then (none) else ((apogeelaw12_of.f 0 0 1 1).bind fun bt360 => ((apogeelaw12_of.f 3 3 4 4).bind fun bt364 => ((box_Join.f k bt360.1 bt360.2.1 bt360.2.2.1 bt360.2.2.2 bt364.1 bt364.2.1 bt364.2.2.1 bt364.2.2.2).bind fun bt368 => ((apogeelaw12_of.f 0 0 4 4).bind fun bt372 => (if ((bt368.1 == bt372.1 && (bt368.2.1 == bt372.2.1)) && ((bt368.2.2.1 == bt372.2.2.1 && (bt368.2.2.2 == bt372.2.2.2)))) = true then ((apogeelaw12_of.f 0 0 3 3).bind fun bt376 => (if ((bt303.1 == bt376.1 && (bt303.2.1 == bt376.2.1)) && ((bt303.2.2.1 == bt376.2.2.1 && (bt303.2.2.2.1 == bt376.2.2.2)))) = true then (if bt303.2.2.2.2 = true then (if bt313.2.2.2.2 = true then (none) else ((apogeelaw12_of.f 1 1 2 2).bind fun bt380 => ((box_Meets.f k bt380.1 bt380.2.1 bt380.2.2.1 bt380.2.2.2 0 0 3 3).bind fun t384 => (if t384 = true then ((apogeelaw12_of.f 1 1 2 2).bind fun bt385 => ((box_Meets.f k bt385.1 bt385.2.1 bt385.2.2.1 bt385.2.2.2 0 0 3 0).bind fun t389 => (if t389 = true then (none) else ((apogeelaw12_of.f 1 1 2 2).bind fun bt390 => ((box_Relate.f k bt390.1 bt390.2.1 bt390.2.2.1 bt390.2.2.2 y296).bind fun t394 => (if t394 = 1 then ((apogeelaw12_of.f 3 3 5 5).bind fun bt395 => ((box_Relate.f k bt395.1 bt395.2.1 bt395.2.2.1 bt395.2.2.2 y296).bind fun t399 => (if t399 = 0 then ((apogeelaw12_of.f 6 6 7 7).bind fun bt400 => ((box_Relate.f k bt400.1 bt400.2.1 bt400.2.2.1 bt400.2.2.2 y296).bind fun t404 => (if t404 = (-1) then ((apogeelaw12_of.f 1 1 2 2).bind fun bt405 => ((box_Corners.f bt405.1 bt405.2.1 bt405.2.2.1 bt405.2.2.2).bind fun t409 => (some ((t409.length : Int) == 4)))) else (none)))) else (none)))) else (none))))))) else (none))))) else (none)) else (none))) else (none)))))))))) else (none))))) else (none)))) else (none))))))) else (none)))))))) = some r := by first | (rw [hy296]; with_reducible exact H) | (have H2_ := (Option.bind_some _ _).symm.trans H; rw [hy296]; with_reducible exact H2_) | (have H2_ := (Option.bind_some _ _).symm.trans H; with_reducible exact H2_) | with_reducible exact H | (rw [hy296]; exact H) | exact H
 have Ny296 := bA hy296
 clear hy296
 replace H := Option.bind_eq_some_iff.mp H
 obtain ⟨⟨t299, t300, t301, t302⟩, A10, H⟩ := H
 replace H : ((box_Grow.f k t299 t300 t301 t302 1).bind fun bt303 => ((apogeelaw12_of.f 1 1 2 2).bind fun bt309 => ((box_Grow.f k bt309.1 bt309.2.1 bt309.2.2.1 bt309.2.2.2 (-1)).bind fun bt313 => ((apogeelaw12_of.f 1 1 2 2).bind fun bt319 => ((box_Right.f bt319.1 bt319.2.1 bt319.2.2.1 bt319.2.2.2).bind fun t323 => (if t323 = true then ((apogeelaw12_of.f 2 1 1 2).bind fun bt324 => ((box_Right.f bt324.1 bt324.2.1 bt324.2.2.1 bt324.2.2.2).bind fun t328 => (if t328 = true then (none) else ((box_Of.f 5 0 2).bind fun bt329 => ((apogeelaw12_of.f 3 (-2) 7 2).bind fun bt333 => (if ((bt329.1 == bt333.1 && (bt329.2.1 == bt333.2.1)) && ((bt329.2.2.1 == bt333.2.2.1 && (bt329.2.2.2 == bt333.2.2.2)))) = true then ((apogeelaw12_of.f 1 1 2 2).bind fun bt337 => ((box_Has.f bt337.1 bt337.2.1 bt337.2.2.1 bt337.2.2.2 2 1).bind fun t341 => (if t341 = true then ((apogeelaw12_of.f 1 1 2 2).bind fun bt342 => ((apogeelaw12_of.f 0 1 3 3).bind fun bt346 => ((box_In.f bt342.1 bt342.2.1 bt342.2.2.1 bt342.2.2.2 bt346.1 bt346.2.1 bt346.2.2.1 bt346.2.2.2).bind fun t350 => (if t350 = true then ((apogeelaw12_of.f 0 1 3 3).bind fun bt351 => ((apogeelaw12_of.f 1 1 2 2).bind fun bt355 => ((box_In.f bt351.1 bt351.2.1 bt351.2.2.1 bt351.2.2.2 bt355.1 bt355.2.1 bt355.2.2.1 bt355.2.2.2).bind fun t359 => (if t359 = true then (none) else ((apogeelaw12_of.f 0 0 1 1).bind fun bt360 => ((apogeelaw12_of.f 3 3 4 4).bind fun bt364 => ((box_Join.f k bt360.1 bt360.2.1 bt360.2.2.1 bt360.2.2.2 bt364.1 bt364.2.1 bt364.2.2.1 bt364.2.2.2).bind fun bt368 => ((apogeelaw12_of.f 0 0 4 4).bind fun bt372 => (if ((bt368.1 == bt372.1 && (bt368.2.1 == bt372.2.1)) && ((bt368.2.2.1 == bt372.2.2.1 && (bt368.2.2.2 == bt372.2.2.2)))) = true then ((apogeelaw12_of.f 0 0 3 3).bind fun bt376 => (if ((bt303.1 == bt376.1 && (bt303.2.1 == bt376.2.1)) && ((bt303.2.2.1 == bt376.2.2.1 && (bt303.2.2.2.1 == bt376.2.2.2)))) = true then (if bt303.2.2.2.2 = true then (if bt313.2.2.2.2 = true then (none) else ((apogeelaw12_of.f 1 1 2 2).bind fun bt380 => ((box_Meets.f k bt380.1 bt380.2.1 bt380.2.2.1 bt380.2.2.2 0 0 3 3).bind fun t384 => (if t384 = true then ((apogeelaw12_of.f 1 1 2 2).bind fun bt385 => ((box_Meets.f k bt385.1 bt385.2.1 bt385.2.2.1 bt385.2.2.2 0 0 3 0).bind fun t389 => (if t389 = true then (none) else ((apogeelaw12_of.f 1 1 2 2).bind fun bt390 => ((box_Relate.f k bt390.1 bt390.2.1 bt390.2.2.1 bt390.2.2.2 y296).bind fun t394 => (if t394 = 1 then ((apogeelaw12_of.f 3 3 5 5).bind fun bt395 => ((box_Relate.f k bt395.1 bt395.2.1 bt395.2.2.1 bt395.2.2.2 y296).bind fun t399 => (if t399 = 0 then ((apogeelaw12_of.f 6 6 7 7).bind fun bt400 => ((box_Relate.f k bt400.1 bt400.2.1 bt400.2.2.1 bt400.2.2.2 y296).bind fun t404 => (if t404 = (-1) then ((apogeelaw12_of.f 1 1 2 2).bind fun bt405 => ((box_Corners.f bt405.1 bt405.2.1 bt405.2.2.1 bt405.2.2.2).bind fun t409 => (some ((t409.length : Int) == 4)))) else (none)))) else (none)))) else (none))))))) else (none))))) else (none)) else (none))) else (none)))))))))) else (none))))) else (none)))) else (none))))))) else (none))))))) = some r := H
 have A1 := bA A10
 clear A10
 replace H := Option.bind_eq_some_iff.mp H
 obtain ⟨⟨t303, t304, t305, t306, t307⟩, A20, H⟩ := H
 replace H : ((apogeelaw12_of.f 1 1 2 2).bind fun bt309 => ((box_Grow.f k bt309.1 bt309.2.1 bt309.2.2.1 bt309.2.2.2 (-1)).bind fun bt313 => ((apogeelaw12_of.f 1 1 2 2).bind fun bt319 => ((box_Right.f bt319.1 bt319.2.1 bt319.2.2.1 bt319.2.2.2).bind fun t323 => (if t323 = true then ((apogeelaw12_of.f 2 1 1 2).bind fun bt324 => ((box_Right.f bt324.1 bt324.2.1 bt324.2.2.1 bt324.2.2.2).bind fun t328 => (if t328 = true then (none) else ((box_Of.f 5 0 2).bind fun bt329 => ((apogeelaw12_of.f 3 (-2) 7 2).bind fun bt333 => (if ((bt329.1 == bt333.1 && (bt329.2.1 == bt333.2.1)) && ((bt329.2.2.1 == bt333.2.2.1 && (bt329.2.2.2 == bt333.2.2.2)))) = true then ((apogeelaw12_of.f 1 1 2 2).bind fun bt337 => ((box_Has.f bt337.1 bt337.2.1 bt337.2.2.1 bt337.2.2.2 2 1).bind fun t341 => (if t341 = true then ((apogeelaw12_of.f 1 1 2 2).bind fun bt342 => ((apogeelaw12_of.f 0 1 3 3).bind fun bt346 => ((box_In.f bt342.1 bt342.2.1 bt342.2.2.1 bt342.2.2.2 bt346.1 bt346.2.1 bt346.2.2.1 bt346.2.2.2).bind fun t350 => (if t350 = true then ((apogeelaw12_of.f 0 1 3 3).bind fun bt351 => ((apogeelaw12_of.f 1 1 2 2).bind fun bt355 => ((box_In.f bt351.1 bt351.2.1 bt351.2.2.1 bt351.2.2.2 bt355.1 bt355.2.1 bt355.2.2.1 bt355.2.2.2).bind fun t359 => (if t359 = true then (none) else ((apogeelaw12_of.f 0 0 1 1).bind fun bt360 => ((apogeelaw12_of.f 3 3 4 4).bind fun bt364 => ((box_Join.f k bt360.1 bt360.2.1 bt360.2.2.1 bt360.2.2.2 bt364.1 bt364.2.1 bt364.2.2.1 bt364.2.2.2).bind fun bt368 => ((apogeelaw12_of.f 0 0 4 4).bind fun bt372 => (if ((bt368.1 == bt372.1 && (bt368.2.1 == bt372.2.1)) && ((bt368.2.2.1 == bt372.2.2.1 && (bt368.2.2.2 == bt372.2.2.2)))) = true then ((apogeelaw12_of.f 0 0 3 3).bind fun bt376 => (if ((t303 == bt376.1 && (t304 == bt376.2.1)) && ((t305 == bt376.2.2.1 && (t306 == bt376.2.2.2)))) = true then (if t307 = true then (if bt313.2.2.2.2 = true then (none) else ((apogeelaw12_of.f 1 1 2 2).bind fun bt380 => ((box_Meets.f k bt380.1 bt380.2.1 bt380.2.2.1 bt380.2.2.2 0 0 3 3).bind fun t384 => (if t384 = true then ((apogeelaw12_of.f 1 1 2 2).bind fun bt385 => ((box_Meets.f k bt385.1 bt385.2.1 bt385.2.2.1 bt385.2.2.2 0 0 3 0).bind fun t389 => (if t389 = true then (none) else ((apogeelaw12_of.f 1 1 2 2).bind fun bt390 => ((box_Relate.f k bt390.1 bt390.2.1 bt390.2.2.1 bt390.2.2.2 y296).bind fun t394 => (if t394 = 1 then ((apogeelaw12_of.f 3 3 5 5).bind fun bt395 => ((box_Relate.f k bt395.1 bt395.2.1 bt395.2.2.1 bt395.2.2.2 y296).bind fun t399 => (if t399 = 0 then ((apogeelaw12_of.f 6 6 7 7).bind fun bt400 => ((box_Relate.f k bt400.1 bt400.2.1 bt400.2.2.1 bt400.2.2.2 y296).bind fun t404 => (if t404 = (-1) then ((apogeelaw12_of.f 1 1 2 2).bind fun bt405 => ((box_Corners.f bt405.1 bt405.2.1 bt405.2.2.1 bt405.2.2.2).bind fun t409 => (some ((t409.length : Int) == 4)))) else (none)))) else (none)))) else (none))))))) else (none))))) else (none)) else (none))) else (none)))))))))) else (none))))) else (none)))) else (none))))))) else (none)))))) = some r := H
 have A2 := bA A20
 clear A20
 replace H := Option.bind_eq_some_iff.mp H
 obtain ⟨⟨t309, t310, t311, t312⟩, A30, H⟩ := H
 replace H : ((box_Grow.f k t309 t310 t311 t312 (-1)).bind fun bt313 => ((apogeelaw12_of.f 1 1 2 2).bind fun bt319 => ((box_Right.f bt319.1 bt319.2.1 bt319.2.2.1 bt319.2.2.2).bind fun t323 => (if t323 = true then ((apogeelaw12_of.f 2 1 1 2).bind fun bt324 => ((box_Right.f bt324.1 bt324.2.1 bt324.2.2.1 bt324.2.2.2).bind fun t328 => (if t328 = true then (none) else ((box_Of.f 5 0 2).bind fun bt329 => ((apogeelaw12_of.f 3 (-2) 7 2).bind fun bt333 => (if ((bt329.1 == bt333.1 && (bt329.2.1 == bt333.2.1)) && ((bt329.2.2.1 == bt333.2.2.1 && (bt329.2.2.2 == bt333.2.2.2)))) = true then ((apogeelaw12_of.f 1 1 2 2).bind fun bt337 => ((box_Has.f bt337.1 bt337.2.1 bt337.2.2.1 bt337.2.2.2 2 1).bind fun t341 => (if t341 = true then ((apogeelaw12_of.f 1 1 2 2).bind fun bt342 => ((apogeelaw12_of.f 0 1 3 3).bind fun bt346 => ((box_In.f bt342.1 bt342.2.1 bt342.2.2.1 bt342.2.2.2 bt346.1 bt346.2.1 bt346.2.2.1 bt346.2.2.2).bind fun t350 => (if t350 = true then ((apogeelaw12_of.f 0 1 3 3).bind fun bt351 => ((apogeelaw12_of.f 1 1 2 2).bind fun bt355 => ((box_In.f bt351.1 bt351.2.1 bt351.2.2.1 bt351.2.2.2 bt355.1 bt355.2.1 bt355.2.2.1 bt355.2.2.2).bind fun t359 => (if t359 = true then (none) else ((apogeelaw12_of.f 0 0 1 1).bind fun bt360 => ((apogeelaw12_of.f 3 3 4 4).bind fun bt364 => ((box_Join.f k bt360.1 bt360.2.1 bt360.2.2.1 bt360.2.2.2 bt364.1 bt364.2.1 bt364.2.2.1 bt364.2.2.2).bind fun bt368 => ((apogeelaw12_of.f 0 0 4 4).bind fun bt372 => (if ((bt368.1 == bt372.1 && (bt368.2.1 == bt372.2.1)) && ((bt368.2.2.1 == bt372.2.2.1 && (bt368.2.2.2 == bt372.2.2.2)))) = true then ((apogeelaw12_of.f 0 0 3 3).bind fun bt376 => (if ((t303 == bt376.1 && (t304 == bt376.2.1)) && ((t305 == bt376.2.2.1 && (t306 == bt376.2.2.2)))) = true then (if t307 = true then (if bt313.2.2.2.2 = true then (none) else ((apogeelaw12_of.f 1 1 2 2).bind fun bt380 => ((box_Meets.f k bt380.1 bt380.2.1 bt380.2.2.1 bt380.2.2.2 0 0 3 3).bind fun t384 => (if t384 = true then ((apogeelaw12_of.f 1 1 2 2).bind fun bt385 => ((box_Meets.f k bt385.1 bt385.2.1 bt385.2.2.1 bt385.2.2.2 0 0 3 0).bind fun t389 => (if t389 = true then (none) else ((apogeelaw12_of.f 1 1 2 2).bind fun bt390 => ((box_Relate.f k bt390.1 bt390.2.1 bt390.2.2.1 bt390.2.2.2 y296).bind fun t394 => (if t394 = 1 then ((apogeelaw12_of.f 3 3 5 5).bind fun bt395 => ((box_Relate.f k bt395.1 bt395.2.1 bt395.2.2.1 bt395.2.2.2 y296).bind fun t399 => (if t399 = 0 then ((apogeelaw12_of.f 6 6 7 7).bind fun bt400 => ((box_Relate.f k bt400.1 bt400.2.1 bt400.2.2.1 bt400.2.2.2 y296).bind fun t404 => (if t404 = (-1) then ((apogeelaw12_of.f 1 1 2 2).bind fun bt405 => ((box_Corners.f bt405.1 bt405.2.1 bt405.2.2.1 bt405.2.2.2).bind fun t409 => (some ((t409.length : Int) == 4)))) else (none)))) else (none)))) else (none))))))) else (none))))) else (none)) else (none))) else (none)))))))))) else (none))))) else (none)))) else (none))))))) else (none))))) = some r := H
 have A3 := bA A30
 clear A30
 replace H := Option.bind_eq_some_iff.mp H
 obtain ⟨⟨t313, t314, t315, t316, t317⟩, A40, H⟩ := H
 replace H : ((apogeelaw12_of.f 1 1 2 2).bind fun bt319 => ((box_Right.f bt319.1 bt319.2.1 bt319.2.2.1 bt319.2.2.2).bind fun t323 => (if t323 = true then ((apogeelaw12_of.f 2 1 1 2).bind fun bt324 => ((box_Right.f bt324.1 bt324.2.1 bt324.2.2.1 bt324.2.2.2).bind fun t328 => (if t328 = true then (none) else ((box_Of.f 5 0 2).bind fun bt329 => ((apogeelaw12_of.f 3 (-2) 7 2).bind fun bt333 => (if ((bt329.1 == bt333.1 && (bt329.2.1 == bt333.2.1)) && ((bt329.2.2.1 == bt333.2.2.1 && (bt329.2.2.2 == bt333.2.2.2)))) = true then ((apogeelaw12_of.f 1 1 2 2).bind fun bt337 => ((box_Has.f bt337.1 bt337.2.1 bt337.2.2.1 bt337.2.2.2 2 1).bind fun t341 => (if t341 = true then ((apogeelaw12_of.f 1 1 2 2).bind fun bt342 => ((apogeelaw12_of.f 0 1 3 3).bind fun bt346 => ((box_In.f bt342.1 bt342.2.1 bt342.2.2.1 bt342.2.2.2 bt346.1 bt346.2.1 bt346.2.2.1 bt346.2.2.2).bind fun t350 => (if t350 = true then ((apogeelaw12_of.f 0 1 3 3).bind fun bt351 => ((apogeelaw12_of.f 1 1 2 2).bind fun bt355 => ((box_In.f bt351.1 bt351.2.1 bt351.2.2.1 bt351.2.2.2 bt355.1 bt355.2.1 bt355.2.2.1 bt355.2.2.2).bind fun t359 => (if t359 = true then (none) else ((apogeelaw12_of.f 0 0 1 1).bind fun bt360 => ((apogeelaw12_of.f 3 3 4 4).bind fun bt364 => ((box_Join.f k bt360.1 bt360.2.1 bt360.2.2.1 bt360.2.2.2 bt364.1 bt364.2.1 bt364.2.2.1 bt364.2.2.2).bind fun bt368 => ((apogeelaw12_of.f 0 0 4 4).bind fun bt372 => (if ((bt368.1 == bt372.1 && (bt368.2.1 == bt372.2.1)) && ((bt368.2.2.1 == bt372.2.2.1 && (bt368.2.2.2 == bt372.2.2.2)))) = true then ((apogeelaw12_of.f 0 0 3 3).bind fun bt376 => (if ((t303 == bt376.1 && (t304 == bt376.2.1)) && ((t305 == bt376.2.2.1 && (t306 == bt376.2.2.2)))) = true then (if t307 = true then (if t317 = true then (none) else ((apogeelaw12_of.f 1 1 2 2).bind fun bt380 => ((box_Meets.f k bt380.1 bt380.2.1 bt380.2.2.1 bt380.2.2.2 0 0 3 3).bind fun t384 => (if t384 = true then ((apogeelaw12_of.f 1 1 2 2).bind fun bt385 => ((box_Meets.f k bt385.1 bt385.2.1 bt385.2.2.1 bt385.2.2.2 0 0 3 0).bind fun t389 => (if t389 = true then (none) else ((apogeelaw12_of.f 1 1 2 2).bind fun bt390 => ((box_Relate.f k bt390.1 bt390.2.1 bt390.2.2.1 bt390.2.2.2 y296).bind fun t394 => (if t394 = 1 then ((apogeelaw12_of.f 3 3 5 5).bind fun bt395 => ((box_Relate.f k bt395.1 bt395.2.1 bt395.2.2.1 bt395.2.2.2 y296).bind fun t399 => (if t399 = 0 then ((apogeelaw12_of.f 6 6 7 7).bind fun bt400 => ((box_Relate.f k bt400.1 bt400.2.1 bt400.2.2.1 bt400.2.2.2 y296).bind fun t404 => (if t404 = (-1) then ((apogeelaw12_of.f 1 1 2 2).bind fun bt405 => ((box_Corners.f bt405.1 bt405.2.1 bt405.2.2.1 bt405.2.2.2).bind fun t409 => (some ((t409.length : Int) == 4)))) else (none)))) else (none)))) else (none))))))) else (none))))) else (none)) else (none))) else (none)))))))))) else (none))))) else (none)))) else (none))))))) else (none)))) = some r := H
 have A4 := bA A40
 clear A40
 replace H := Option.bind_eq_some_iff.mp H
 obtain ⟨⟨t319, t320, t321, t322⟩, A50, H⟩ := H
 replace H : ((box_Right.f t319 t320 t321 t322).bind fun t323 => (if t323 = true then ((apogeelaw12_of.f 2 1 1 2).bind fun bt324 => ((box_Right.f bt324.1 bt324.2.1 bt324.2.2.1 bt324.2.2.2).bind fun t328 => (if t328 = true then (none) else ((box_Of.f 5 0 2).bind fun bt329 => ((apogeelaw12_of.f 3 (-2) 7 2).bind fun bt333 => (if ((bt329.1 == bt333.1 && (bt329.2.1 == bt333.2.1)) && ((bt329.2.2.1 == bt333.2.2.1 && (bt329.2.2.2 == bt333.2.2.2)))) = true then ((apogeelaw12_of.f 1 1 2 2).bind fun bt337 => ((box_Has.f bt337.1 bt337.2.1 bt337.2.2.1 bt337.2.2.2 2 1).bind fun t341 => (if t341 = true then ((apogeelaw12_of.f 1 1 2 2).bind fun bt342 => ((apogeelaw12_of.f 0 1 3 3).bind fun bt346 => ((box_In.f bt342.1 bt342.2.1 bt342.2.2.1 bt342.2.2.2 bt346.1 bt346.2.1 bt346.2.2.1 bt346.2.2.2).bind fun t350 => (if t350 = true then ((apogeelaw12_of.f 0 1 3 3).bind fun bt351 => ((apogeelaw12_of.f 1 1 2 2).bind fun bt355 => ((box_In.f bt351.1 bt351.2.1 bt351.2.2.1 bt351.2.2.2 bt355.1 bt355.2.1 bt355.2.2.1 bt355.2.2.2).bind fun t359 => (if t359 = true then (none) else ((apogeelaw12_of.f 0 0 1 1).bind fun bt360 => ((apogeelaw12_of.f 3 3 4 4).bind fun bt364 => ((box_Join.f k bt360.1 bt360.2.1 bt360.2.2.1 bt360.2.2.2 bt364.1 bt364.2.1 bt364.2.2.1 bt364.2.2.2).bind fun bt368 => ((apogeelaw12_of.f 0 0 4 4).bind fun bt372 => (if ((bt368.1 == bt372.1 && (bt368.2.1 == bt372.2.1)) && ((bt368.2.2.1 == bt372.2.2.1 && (bt368.2.2.2 == bt372.2.2.2)))) = true then ((apogeelaw12_of.f 0 0 3 3).bind fun bt376 => (if ((t303 == bt376.1 && (t304 == bt376.2.1)) && ((t305 == bt376.2.2.1 && (t306 == bt376.2.2.2)))) = true then (if t307 = true then (if t317 = true then (none) else ((apogeelaw12_of.f 1 1 2 2).bind fun bt380 => ((box_Meets.f k bt380.1 bt380.2.1 bt380.2.2.1 bt380.2.2.2 0 0 3 3).bind fun t384 => (if t384 = true then ((apogeelaw12_of.f 1 1 2 2).bind fun bt385 => ((box_Meets.f k bt385.1 bt385.2.1 bt385.2.2.1 bt385.2.2.2 0 0 3 0).bind fun t389 => (if t389 = true then (none) else ((apogeelaw12_of.f 1 1 2 2).bind fun bt390 => ((box_Relate.f k bt390.1 bt390.2.1 bt390.2.2.1 bt390.2.2.2 y296).bind fun t394 => (if t394 = 1 then ((apogeelaw12_of.f 3 3 5 5).bind fun bt395 => ((box_Relate.f k bt395.1 bt395.2.1 bt395.2.2.1 bt395.2.2.2 y296).bind fun t399 => (if t399 = 0 then ((apogeelaw12_of.f 6 6 7 7).bind fun bt400 => ((box_Relate.f k bt400.1 bt400.2.1 bt400.2.2.1 bt400.2.2.2 y296).bind fun t404 => (if t404 = (-1) then ((apogeelaw12_of.f 1 1 2 2).bind fun bt405 => ((box_Corners.f bt405.1 bt405.2.1 bt405.2.2.1 bt405.2.2.2).bind fun t409 => (some ((t409.length : Int) == 4)))) else (none)))) else (none)))) else (none))))))) else (none))))) else (none)) else (none))) else (none)))))))))) else (none))))) else (none)))) else (none))))))) else (none))) = some r := H
 have A5 := bA A50
 clear A50
 replace H := Option.bind_eq_some_iff.mp H
 obtain ⟨t323, A60, H⟩ := H
 have A6 := bA A60
 clear A60
 by_cases c7 : t323 = true
 rotate_left
 ·replace c7 := Bool.eq_false_iff.mpr c7
  subst c7
  rw [if_neg bn] at H
  exact absurd H (by simp)
 subst c7
 rw [if_pos rfl] at H
 replace H := Option.bind_eq_some_iff.mp H
 obtain ⟨⟨t324, t325, t326, t327⟩, A80, H⟩ := H
 replace H : ((box_Right.f t324 t325 t326 t327).bind fun t328 => (if t328 = true then (none) else ((box_Of.f 5 0 2).bind fun bt329 => ((apogeelaw12_of.f 3 (-2) 7 2).bind fun bt333 => (if ((bt329.1 == bt333.1 && (bt329.2.1 == bt333.2.1)) && ((bt329.2.2.1 == bt333.2.2.1 && (bt329.2.2.2 == bt333.2.2.2)))) = true then ((apogeelaw12_of.f 1 1 2 2).bind fun bt337 => ((box_Has.f bt337.1 bt337.2.1 bt337.2.2.1 bt337.2.2.2 2 1).bind fun t341 => (if t341 = true then ((apogeelaw12_of.f 1 1 2 2).bind fun bt342 => ((apogeelaw12_of.f 0 1 3 3).bind fun bt346 => ((box_In.f bt342.1 bt342.2.1 bt342.2.2.1 bt342.2.2.2 bt346.1 bt346.2.1 bt346.2.2.1 bt346.2.2.2).bind fun t350 => (if t350 = true then ((apogeelaw12_of.f 0 1 3 3).bind fun bt351 => ((apogeelaw12_of.f 1 1 2 2).bind fun bt355 => ((box_In.f bt351.1 bt351.2.1 bt351.2.2.1 bt351.2.2.2 bt355.1 bt355.2.1 bt355.2.2.1 bt355.2.2.2).bind fun t359 => (if t359 = true then (none) else ((apogeelaw12_of.f 0 0 1 1).bind fun bt360 => ((apogeelaw12_of.f 3 3 4 4).bind fun bt364 => ((box_Join.f k bt360.1 bt360.2.1 bt360.2.2.1 bt360.2.2.2 bt364.1 bt364.2.1 bt364.2.2.1 bt364.2.2.2).bind fun bt368 => ((apogeelaw12_of.f 0 0 4 4).bind fun bt372 => (if ((bt368.1 == bt372.1 && (bt368.2.1 == bt372.2.1)) && ((bt368.2.2.1 == bt372.2.2.1 && (bt368.2.2.2 == bt372.2.2.2)))) = true then ((apogeelaw12_of.f 0 0 3 3).bind fun bt376 => (if ((t303 == bt376.1 && (t304 == bt376.2.1)) && ((t305 == bt376.2.2.1 && (t306 == bt376.2.2.2)))) = true then (if t307 = true then (if t317 = true then (none) else ((apogeelaw12_of.f 1 1 2 2).bind fun bt380 => ((box_Meets.f k bt380.1 bt380.2.1 bt380.2.2.1 bt380.2.2.2 0 0 3 3).bind fun t384 => (if t384 = true then ((apogeelaw12_of.f 1 1 2 2).bind fun bt385 => ((box_Meets.f k bt385.1 bt385.2.1 bt385.2.2.1 bt385.2.2.2 0 0 3 0).bind fun t389 => (if t389 = true then (none) else ((apogeelaw12_of.f 1 1 2 2).bind fun bt390 => ((box_Relate.f k bt390.1 bt390.2.1 bt390.2.2.1 bt390.2.2.2 y296).bind fun t394 => (if t394 = 1 then ((apogeelaw12_of.f 3 3 5 5).bind fun bt395 => ((box_Relate.f k bt395.1 bt395.2.1 bt395.2.2.1 bt395.2.2.2 y296).bind fun t399 => (if t399 = 0 then ((apogeelaw12_of.f 6 6 7 7).bind fun bt400 => ((box_Relate.f k bt400.1 bt400.2.1 bt400.2.2.1 bt400.2.2.2 y296).bind fun t404 => (if t404 = (-1) then ((apogeelaw12_of.f 1 1 2 2).bind fun bt405 => ((box_Corners.f bt405.1 bt405.2.1 bt405.2.2.1 bt405.2.2.2).bind fun t409 => (some ((t409.length : Int) == 4)))) else (none)))) else (none)))) else (none))))))) else (none))))) else (none)) else (none))) else (none)))))))))) else (none))))) else (none)))) else (none)))))) = some r := H
 have A8 := bA A80
 clear A80
 replace H := Option.bind_eq_some_iff.mp H
 obtain ⟨t328, A90, H⟩ := H
 have A9 := bA A90
 clear A90
 by_cases c10 : t328 = true
 ·subst c10
  rw [if_pos rfl] at H
  exact absurd H (by simp)
 replace c10 := Bool.eq_false_iff.mpr c10
 subst c10
 rw [if_neg bn] at H
 replace H := Option.bind_eq_some_iff.mp H
 obtain ⟨⟨t329, t330, t331, t332⟩, A110, H⟩ := H
 replace H : ((apogeelaw12_of.f 3 (-2) 7 2).bind fun bt333 => (if ((t329 == bt333.1 && (t330 == bt333.2.1)) && ((t331 == bt333.2.2.1 && (t332 == bt333.2.2.2)))) = true then ((apogeelaw12_of.f 1 1 2 2).bind fun bt337 => ((box_Has.f bt337.1 bt337.2.1 bt337.2.2.1 bt337.2.2.2 2 1).bind fun t341 => (if t341 = true then ((apogeelaw12_of.f 1 1 2 2).bind fun bt342 => ((apogeelaw12_of.f 0 1 3 3).bind fun bt346 => ((box_In.f bt342.1 bt342.2.1 bt342.2.2.1 bt342.2.2.2 bt346.1 bt346.2.1 bt346.2.2.1 bt346.2.2.2).bind fun t350 => (if t350 = true then ((apogeelaw12_of.f 0 1 3 3).bind fun bt351 => ((apogeelaw12_of.f 1 1 2 2).bind fun bt355 => ((box_In.f bt351.1 bt351.2.1 bt351.2.2.1 bt351.2.2.2 bt355.1 bt355.2.1 bt355.2.2.1 bt355.2.2.2).bind fun t359 => (if t359 = true then (none) else ((apogeelaw12_of.f 0 0 1 1).bind fun bt360 => ((apogeelaw12_of.f 3 3 4 4).bind fun bt364 => ((box_Join.f k bt360.1 bt360.2.1 bt360.2.2.1 bt360.2.2.2 bt364.1 bt364.2.1 bt364.2.2.1 bt364.2.2.2).bind fun bt368 => ((apogeelaw12_of.f 0 0 4 4).bind fun bt372 => (if ((bt368.1 == bt372.1 && (bt368.2.1 == bt372.2.1)) && ((bt368.2.2.1 == bt372.2.2.1 && (bt368.2.2.2 == bt372.2.2.2)))) = true then ((apogeelaw12_of.f 0 0 3 3).bind fun bt376 => (if ((t303 == bt376.1 && (t304 == bt376.2.1)) && ((t305 == bt376.2.2.1 && (t306 == bt376.2.2.2)))) = true then (if t307 = true then (if t317 = true then (none) else ((apogeelaw12_of.f 1 1 2 2).bind fun bt380 => ((box_Meets.f k bt380.1 bt380.2.1 bt380.2.2.1 bt380.2.2.2 0 0 3 3).bind fun t384 => (if t384 = true then ((apogeelaw12_of.f 1 1 2 2).bind fun bt385 => ((box_Meets.f k bt385.1 bt385.2.1 bt385.2.2.1 bt385.2.2.2 0 0 3 0).bind fun t389 => (if t389 = true then (none) else ((apogeelaw12_of.f 1 1 2 2).bind fun bt390 => ((box_Relate.f k bt390.1 bt390.2.1 bt390.2.2.1 bt390.2.2.2 y296).bind fun t394 => (if t394 = 1 then ((apogeelaw12_of.f 3 3 5 5).bind fun bt395 => ((box_Relate.f k bt395.1 bt395.2.1 bt395.2.2.1 bt395.2.2.2 y296).bind fun t399 => (if t399 = 0 then ((apogeelaw12_of.f 6 6 7 7).bind fun bt400 => ((box_Relate.f k bt400.1 bt400.2.1 bt400.2.2.1 bt400.2.2.2 y296).bind fun t404 => (if t404 = (-1) then ((apogeelaw12_of.f 1 1 2 2).bind fun bt405 => ((box_Corners.f bt405.1 bt405.2.1 bt405.2.2.1 bt405.2.2.2).bind fun t409 => (some ((t409.length : Int) == 4)))) else (none)))) else (none)))) else (none))))))) else (none))))) else (none)) else (none))) else (none)))))))))) else (none))))) else (none)))) else (none))) = some r := H
 have A11 := bA A110
 clear A110
 replace H := Option.bind_eq_some_iff.mp H
 obtain ⟨⟨t333, t334, t335, t336⟩, A120, H⟩ := H
 replace H : (if ((t329 == t333 && (t330 == t334)) && ((t331 == t335 && (t332 == t336)))) = true then ((apogeelaw12_of.f 1 1 2 2).bind fun bt337 => ((box_Has.f bt337.1 bt337.2.1 bt337.2.2.1 bt337.2.2.2 2 1).bind fun t341 => (if t341 = true then ((apogeelaw12_of.f 1 1 2 2).bind fun bt342 => ((apogeelaw12_of.f 0 1 3 3).bind fun bt346 => ((box_In.f bt342.1 bt342.2.1 bt342.2.2.1 bt342.2.2.2 bt346.1 bt346.2.1 bt346.2.2.1 bt346.2.2.2).bind fun t350 => (if t350 = true then ((apogeelaw12_of.f 0 1 3 3).bind fun bt351 => ((apogeelaw12_of.f 1 1 2 2).bind fun bt355 => ((box_In.f bt351.1 bt351.2.1 bt351.2.2.1 bt351.2.2.2 bt355.1 bt355.2.1 bt355.2.2.1 bt355.2.2.2).bind fun t359 => (if t359 = true then (none) else ((apogeelaw12_of.f 0 0 1 1).bind fun bt360 => ((apogeelaw12_of.f 3 3 4 4).bind fun bt364 => ((box_Join.f k bt360.1 bt360.2.1 bt360.2.2.1 bt360.2.2.2 bt364.1 bt364.2.1 bt364.2.2.1 bt364.2.2.2).bind fun bt368 => ((apogeelaw12_of.f 0 0 4 4).bind fun bt372 => (if ((bt368.1 == bt372.1 && (bt368.2.1 == bt372.2.1)) && ((bt368.2.2.1 == bt372.2.2.1 && (bt368.2.2.2 == bt372.2.2.2)))) = true then ((apogeelaw12_of.f 0 0 3 3).bind fun bt376 => (if ((t303 == bt376.1 && (t304 == bt376.2.1)) && ((t305 == bt376.2.2.1 && (t306 == bt376.2.2.2)))) = true then (if t307 = true then (if t317 = true then (none) else ((apogeelaw12_of.f 1 1 2 2).bind fun bt380 => ((box_Meets.f k bt380.1 bt380.2.1 bt380.2.2.1 bt380.2.2.2 0 0 3 3).bind fun t384 => (if t384 = true then ((apogeelaw12_of.f 1 1 2 2).bind fun bt385 => ((box_Meets.f k bt385.1 bt385.2.1 bt385.2.2.1 bt385.2.2.2 0 0 3 0).bind fun t389 => (if t389 = true then (none) else ((apogeelaw12_of.f 1 1 2 2).bind fun bt390 => ((box_Relate.f k bt390.1 bt390.2.1 bt390.2.2.1 bt390.2.2.2 y296).bind fun t394 => (if t394 = 1 then ((apogeelaw12_of.f 3 3 5 5).bind fun bt395 => ((box_Relate.f k bt395.1 bt395.2.1 bt395.2.2.1 bt395.2.2.2 y296).bind fun t399 => (if t399 = 0 then ((apogeelaw12_of.f 6 6 7 7).bind fun bt400 => ((box_Relate.f k bt400.1 bt400.2.1 bt400.2.2.1 bt400.2.2.2 y296).bind fun t404 => (if t404 = (-1) then ((apogeelaw12_of.f 1 1 2 2).bind fun bt405 => ((box_Corners.f bt405.1 bt405.2.1 bt405.2.2.1 bt405.2.2.2).bind fun t409 => (some ((t409.length : Int) == 4)))) else (none)))) else (none)))) else (none))))))) else (none))))) else (none)) else (none))) else (none)))))))))) else (none))))) else (none)))) else (none)) = some r := H
 have A12 := bA A120
 clear A120
 by_cases c13 : ((t329 == t333 && (t330 == t334)) && ((t331 == t335 && (t332 == t336)))) = true
 rotate_left
 ·rw [if_neg c13] at H
  have c13b0 : ((t329 == t333 && (t330 == t334)) && ((t331 == t335 && (t332 == t336)))) = false := by simpa using c13
  clear c13
  exact absurd H (by simp)
 rw [if_pos c13] at H
 have c13b0 : ((t329 == t333 && (t330 == t334)) && ((t331 == t335 && (t332 == t336)))) = true := c13
 clear c13
 replace H := Option.bind_eq_some_iff.mp H
 obtain ⟨⟨t337, t338, t339, t340⟩, A140, H⟩ := H
 replace H : ((box_Has.f t337 t338 t339 t340 2 1).bind fun t341 => (if t341 = true then ((apogeelaw12_of.f 1 1 2 2).bind fun bt342 => ((apogeelaw12_of.f 0 1 3 3).bind fun bt346 => ((box_In.f bt342.1 bt342.2.1 bt342.2.2.1 bt342.2.2.2 bt346.1 bt346.2.1 bt346.2.2.1 bt346.2.2.2).bind fun t350 => (if t350 = true then ((apogeelaw12_of.f 0 1 3 3).bind fun bt351 => ((apogeelaw12_of.f 1 1 2 2).bind fun bt355 => ((box_In.f bt351.1 bt351.2.1 bt351.2.2.1 bt351.2.2.2 bt355.1 bt355.2.1 bt355.2.2.1 bt355.2.2.2).bind fun t359 => (if t359 = true then (none) else ((apogeelaw12_of.f 0 0 1 1).bind fun bt360 => ((apogeelaw12_of.f 3 3 4 4).bind fun bt364 => ((box_Join.f k bt360.1 bt360.2.1 bt360.2.2.1 bt360.2.2.2 bt364.1 bt364.2.1 bt364.2.2.1 bt364.2.2.2).bind fun bt368 => ((apogeelaw12_of.f 0 0 4 4).bind fun bt372 => (if ((bt368.1 == bt372.1 && (bt368.2.1 == bt372.2.1)) && ((bt368.2.2.1 == bt372.2.2.1 && (bt368.2.2.2 == bt372.2.2.2)))) = true then ((apogeelaw12_of.f 0 0 3 3).bind fun bt376 => (if ((t303 == bt376.1 && (t304 == bt376.2.1)) && ((t305 == bt376.2.2.1 && (t306 == bt376.2.2.2)))) = true then (if t307 = true then (if t317 = true then (none) else ((apogeelaw12_of.f 1 1 2 2).bind fun bt380 => ((box_Meets.f k bt380.1 bt380.2.1 bt380.2.2.1 bt380.2.2.2 0 0 3 3).bind fun t384 => (if t384 = true then ((apogeelaw12_of.f 1 1 2 2).bind fun bt385 => ((box_Meets.f k bt385.1 bt385.2.1 bt385.2.2.1 bt385.2.2.2 0 0 3 0).bind fun t389 => (if t389 = true then (none) else ((apogeelaw12_of.f 1 1 2 2).bind fun bt390 => ((box_Relate.f k bt390.1 bt390.2.1 bt390.2.2.1 bt390.2.2.2 y296).bind fun t394 => (if t394 = 1 then ((apogeelaw12_of.f 3 3 5 5).bind fun bt395 => ((box_Relate.f k bt395.1 bt395.2.1 bt395.2.2.1 bt395.2.2.2 y296).bind fun t399 => (if t399 = 0 then ((apogeelaw12_of.f 6 6 7 7).bind fun bt400 => ((box_Relate.f k bt400.1 bt400.2.1 bt400.2.2.1 bt400.2.2.2 y296).bind fun t404 => (if t404 = (-1) then ((apogeelaw12_of.f 1 1 2 2).bind fun bt405 => ((box_Corners.f bt405.1 bt405.2.1 bt405.2.2.1 bt405.2.2.2).bind fun t409 => (some ((t409.length : Int) == 4)))) else (none)))) else (none)))) else (none))))))) else (none))))) else (none)) else (none))) else (none)))))))))) else (none))))) else (none))) = some r := H
 have A14 := bA A140
 clear A140
 replace H := Option.bind_eq_some_iff.mp H
 obtain ⟨t341, A150, H⟩ := H
 have A15 := bA A150
 clear A150
 by_cases c16 : t341 = true
 rotate_left
 ·replace c16 := Bool.eq_false_iff.mpr c16
  subst c16
  rw [if_neg bn] at H
  exact absurd H (by simp)
 subst c16
 rw [if_pos rfl] at H
 replace H := Option.bind_eq_some_iff.mp H
 obtain ⟨⟨t342, t343, t344, t345⟩, A170, H⟩ := H
 replace H : ((apogeelaw12_of.f 0 1 3 3).bind fun bt346 => ((box_In.f t342 t343 t344 t345 bt346.1 bt346.2.1 bt346.2.2.1 bt346.2.2.2).bind fun t350 => (if t350 = true then ((apogeelaw12_of.f 0 1 3 3).bind fun bt351 => ((apogeelaw12_of.f 1 1 2 2).bind fun bt355 => ((box_In.f bt351.1 bt351.2.1 bt351.2.2.1 bt351.2.2.2 bt355.1 bt355.2.1 bt355.2.2.1 bt355.2.2.2).bind fun t359 => (if t359 = true then (none) else ((apogeelaw12_of.f 0 0 1 1).bind fun bt360 => ((apogeelaw12_of.f 3 3 4 4).bind fun bt364 => ((box_Join.f k bt360.1 bt360.2.1 bt360.2.2.1 bt360.2.2.2 bt364.1 bt364.2.1 bt364.2.2.1 bt364.2.2.2).bind fun bt368 => ((apogeelaw12_of.f 0 0 4 4).bind fun bt372 => (if ((bt368.1 == bt372.1 && (bt368.2.1 == bt372.2.1)) && ((bt368.2.2.1 == bt372.2.2.1 && (bt368.2.2.2 == bt372.2.2.2)))) = true then ((apogeelaw12_of.f 0 0 3 3).bind fun bt376 => (if ((t303 == bt376.1 && (t304 == bt376.2.1)) && ((t305 == bt376.2.2.1 && (t306 == bt376.2.2.2)))) = true then (if t307 = true then (if t317 = true then (none) else ((apogeelaw12_of.f 1 1 2 2).bind fun bt380 => ((box_Meets.f k bt380.1 bt380.2.1 bt380.2.2.1 bt380.2.2.2 0 0 3 3).bind fun t384 => (if t384 = true then ((apogeelaw12_of.f 1 1 2 2).bind fun bt385 => ((box_Meets.f k bt385.1 bt385.2.1 bt385.2.2.1 bt385.2.2.2 0 0 3 0).bind fun t389 => (if t389 = true then (none) else ((apogeelaw12_of.f 1 1 2 2).bind fun bt390 => ((box_Relate.f k bt390.1 bt390.2.1 bt390.2.2.1 bt390.2.2.2 y296).bind fun t394 => (if t394 = 1 then ((apogeelaw12_of.f 3 3 5 5).bind fun bt395 => ((box_Relate.f k bt395.1 bt395.2.1 bt395.2.2.1 bt395.2.2.2 y296).bind fun t399 => (if t399 = 0 then ((apogeelaw12_of.f 6 6 7 7).bind fun bt400 => ((box_Relate.f k bt400.1 bt400.2.1 bt400.2.2.1 bt400.2.2.2 y296).bind fun t404 => (if t404 = (-1) then ((apogeelaw12_of.f 1 1 2 2).bind fun bt405 => ((box_Corners.f bt405.1 bt405.2.1 bt405.2.2.1 bt405.2.2.2).bind fun t409 => (some ((t409.length : Int) == 4)))) else (none)))) else (none)))) else (none))))))) else (none))))) else (none)) else (none))) else (none)))))))))) else (none)))) = some r := H
 have A17 := bA A170
 clear A170
 replace H := Option.bind_eq_some_iff.mp H
 obtain ⟨⟨t346, t347, t348, t349⟩, A180, H⟩ := H
 replace H : ((box_In.f t342 t343 t344 t345 t346 t347 t348 t349).bind fun t350 => (if t350 = true then ((apogeelaw12_of.f 0 1 3 3).bind fun bt351 => ((apogeelaw12_of.f 1 1 2 2).bind fun bt355 => ((box_In.f bt351.1 bt351.2.1 bt351.2.2.1 bt351.2.2.2 bt355.1 bt355.2.1 bt355.2.2.1 bt355.2.2.2).bind fun t359 => (if t359 = true then (none) else ((apogeelaw12_of.f 0 0 1 1).bind fun bt360 => ((apogeelaw12_of.f 3 3 4 4).bind fun bt364 => ((box_Join.f k bt360.1 bt360.2.1 bt360.2.2.1 bt360.2.2.2 bt364.1 bt364.2.1 bt364.2.2.1 bt364.2.2.2).bind fun bt368 => ((apogeelaw12_of.f 0 0 4 4).bind fun bt372 => (if ((bt368.1 == bt372.1 && (bt368.2.1 == bt372.2.1)) && ((bt368.2.2.1 == bt372.2.2.1 && (bt368.2.2.2 == bt372.2.2.2)))) = true then ((apogeelaw12_of.f 0 0 3 3).bind fun bt376 => (if ((t303 == bt376.1 && (t304 == bt376.2.1)) && ((t305 == bt376.2.2.1 && (t306 == bt376.2.2.2)))) = true then (if t307 = true then (if t317 = true then (none) else ((apogeelaw12_of.f 1 1 2 2).bind fun bt380 => ((box_Meets.f k bt380.1 bt380.2.1 bt380.2.2.1 bt380.2.2.2 0 0 3 3).bind fun t384 => (if t384 = true then ((apogeelaw12_of.f 1 1 2 2).bind fun bt385 => ((box_Meets.f k bt385.1 bt385.2.1 bt385.2.2.1 bt385.2.2.2 0 0 3 0).bind fun t389 => (if t389 = true then (none) else ((apogeelaw12_of.f 1 1 2 2).bind fun bt390 => ((box_Relate.f k bt390.1 bt390.2.1 bt390.2.2.1 bt390.2.2.2 y296).bind fun t394 => (if t394 = 1 then ((apogeelaw12_of.f 3 3 5 5).bind fun bt395 => ((box_Relate.f k bt395.1 bt395.2.1 bt395.2.2.1 bt395.2.2.2 y296).bind fun t399 => (if t399 = 0 then ((apogeelaw12_of.f 6 6 7 7).bind fun bt400 => ((box_Relate.f k bt400.1 bt400.2.1 bt400.2.2.1 bt400.2.2.2 y296).bind fun t404 => (if t404 = (-1) then ((apogeelaw12_of.f 1 1 2 2).bind fun bt405 => ((box_Corners.f bt405.1 bt405.2.1 bt405.2.2.1 bt405.2.2.2).bind fun t409 => (some ((t409.length : Int) == 4)))) else (none)))) else (none)))) else (none))))))) else (none))))) else (none)) else (none))) else (none)))))))))) else (none))) = some r := H
 have A18 := bA A180
 clear A180
 replace H := Option.bind_eq_some_iff.mp H
 obtain ⟨t350, A190, H⟩ := H
 have A19 := bA A190
 clear A190
 by_cases c20 : t350 = true
 rotate_left
 ·replace c20 := Bool.eq_false_iff.mpr c20
  subst c20
  rw [if_neg bn] at H
  exact absurd H (by simp)
 subst c20
 rw [if_pos rfl] at H
 replace H := Option.bind_eq_some_iff.mp H
 obtain ⟨⟨t351, t352, t353, t354⟩, A210, H⟩ := H
 replace H : ((apogeelaw12_of.f 1 1 2 2).bind fun bt355 => ((box_In.f t351 t352 t353 t354 bt355.1 bt355.2.1 bt355.2.2.1 bt355.2.2.2).bind fun t359 => (if t359 = true then (none) else ((apogeelaw12_of.f 0 0 1 1).bind fun bt360 => ((apogeelaw12_of.f 3 3 4 4).bind fun bt364 => ((box_Join.f k bt360.1 bt360.2.1 bt360.2.2.1 bt360.2.2.2 bt364.1 bt364.2.1 bt364.2.2.1 bt364.2.2.2).bind fun bt368 => ((apogeelaw12_of.f 0 0 4 4).bind fun bt372 => (if ((bt368.1 == bt372.1 && (bt368.2.1 == bt372.2.1)) && ((bt368.2.2.1 == bt372.2.2.1 && (bt368.2.2.2 == bt372.2.2.2)))) = true then ((apogeelaw12_of.f 0 0 3 3).bind fun bt376 => (if ((t303 == bt376.1 && (t304 == bt376.2.1)) && ((t305 == bt376.2.2.1 && (t306 == bt376.2.2.2)))) = true then (if t307 = true then (if t317 = true then (none) else ((apogeelaw12_of.f 1 1 2 2).bind fun bt380 => ((box_Meets.f k bt380.1 bt380.2.1 bt380.2.2.1 bt380.2.2.2 0 0 3 3).bind fun t384 => (if t384 = true then ((apogeelaw12_of.f 1 1 2 2).bind fun bt385 => ((box_Meets.f k bt385.1 bt385.2.1 bt385.2.2.1 bt385.2.2.2 0 0 3 0).bind fun t389 => (if t389 = true then (none) else ((apogeelaw12_of.f 1 1 2 2).bind fun bt390 => ((box_Relate.f k bt390.1 bt390.2.1 bt390.2.2.1 bt390.2.2.2 y296).bind fun t394 => (if t394 = 1 then ((apogeelaw12_of.f 3 3 5 5).bind fun bt395 => ((box_Relate.f k bt395.1 bt395.2.1 bt395.2.2.1 bt395.2.2.2 y296).bind fun t399 => (if t399 = 0 then ((apogeelaw12_of.f 6 6 7 7).bind fun bt400 => ((box_Relate.f k bt400.1 bt400.2.1 bt400.2.2.1 bt400.2.2.2 y296).bind fun t404 => (if t404 = (-1) then ((apogeelaw12_of.f 1 1 2 2).bind fun bt405 => ((box_Corners.f bt405.1 bt405.2.1 bt405.2.2.1 bt405.2.2.2).bind fun t409 => (some ((t409.length : Int) == 4)))) else (none)))) else (none)))) else (none))))))) else (none))))) else (none)) else (none))) else (none))))))))) = some r := H
 have A21 := bA A210
 clear A210
 replace H := Option.bind_eq_some_iff.mp H
 obtain ⟨⟨t355, t356, t357, t358⟩, A220, H⟩ := H
 replace H : ((box_In.f t351 t352 t353 t354 t355 t356 t357 t358).bind fun t359 => (if t359 = true then (none) else ((apogeelaw12_of.f 0 0 1 1).bind fun bt360 => ((apogeelaw12_of.f 3 3 4 4).bind fun bt364 => ((box_Join.f k bt360.1 bt360.2.1 bt360.2.2.1 bt360.2.2.2 bt364.1 bt364.2.1 bt364.2.2.1 bt364.2.2.2).bind fun bt368 => ((apogeelaw12_of.f 0 0 4 4).bind fun bt372 => (if ((bt368.1 == bt372.1 && (bt368.2.1 == bt372.2.1)) && ((bt368.2.2.1 == bt372.2.2.1 && (bt368.2.2.2 == bt372.2.2.2)))) = true then ((apogeelaw12_of.f 0 0 3 3).bind fun bt376 => (if ((t303 == bt376.1 && (t304 == bt376.2.1)) && ((t305 == bt376.2.2.1 && (t306 == bt376.2.2.2)))) = true then (if t307 = true then (if t317 = true then (none) else ((apogeelaw12_of.f 1 1 2 2).bind fun bt380 => ((box_Meets.f k bt380.1 bt380.2.1 bt380.2.2.1 bt380.2.2.2 0 0 3 3).bind fun t384 => (if t384 = true then ((apogeelaw12_of.f 1 1 2 2).bind fun bt385 => ((box_Meets.f k bt385.1 bt385.2.1 bt385.2.2.1 bt385.2.2.2 0 0 3 0).bind fun t389 => (if t389 = true then (none) else ((apogeelaw12_of.f 1 1 2 2).bind fun bt390 => ((box_Relate.f k bt390.1 bt390.2.1 bt390.2.2.1 bt390.2.2.2 y296).bind fun t394 => (if t394 = 1 then ((apogeelaw12_of.f 3 3 5 5).bind fun bt395 => ((box_Relate.f k bt395.1 bt395.2.1 bt395.2.2.1 bt395.2.2.2 y296).bind fun t399 => (if t399 = 0 then ((apogeelaw12_of.f 6 6 7 7).bind fun bt400 => ((box_Relate.f k bt400.1 bt400.2.1 bt400.2.2.1 bt400.2.2.2 y296).bind fun t404 => (if t404 = (-1) then ((apogeelaw12_of.f 1 1 2 2).bind fun bt405 => ((box_Corners.f bt405.1 bt405.2.1 bt405.2.2.1 bt405.2.2.2).bind fun t409 => (some ((t409.length : Int) == 4)))) else (none)))) else (none)))) else (none))))))) else (none))))) else (none)) else (none))) else (none)))))))) = some r := H
 have A22 := bA A220
 clear A220
 replace H := Option.bind_eq_some_iff.mp H
 obtain ⟨t359, A230, H⟩ := H
 have A23 := bA A230
 clear A230
 by_cases c24 : t359 = true
 ·subst c24
  rw [if_pos rfl] at H
  exact absurd H (by simp)
 replace c24 := Bool.eq_false_iff.mpr c24
 subst c24
 rw [if_neg bn] at H
 replace H := Option.bind_eq_some_iff.mp H
 obtain ⟨⟨t360, t361, t362, t363⟩, A250, H⟩ := H
 replace H : ((apogeelaw12_of.f 3 3 4 4).bind fun bt364 => ((box_Join.f k t360 t361 t362 t363 bt364.1 bt364.2.1 bt364.2.2.1 bt364.2.2.2).bind fun bt368 => ((apogeelaw12_of.f 0 0 4 4).bind fun bt372 => (if ((bt368.1 == bt372.1 && (bt368.2.1 == bt372.2.1)) && ((bt368.2.2.1 == bt372.2.2.1 && (bt368.2.2.2 == bt372.2.2.2)))) = true then ((apogeelaw12_of.f 0 0 3 3).bind fun bt376 => (if ((t303 == bt376.1 && (t304 == bt376.2.1)) && ((t305 == bt376.2.2.1 && (t306 == bt376.2.2.2)))) = true then (if t307 = true then (if t317 = true then (none) else ((apogeelaw12_of.f 1 1 2 2).bind fun bt380 => ((box_Meets.f k bt380.1 bt380.2.1 bt380.2.2.1 bt380.2.2.2 0 0 3 3).bind fun t384 => (if t384 = true then ((apogeelaw12_of.f 1 1 2 2).bind fun bt385 => ((box_Meets.f k bt385.1 bt385.2.1 bt385.2.2.1 bt385.2.2.2 0 0 3 0).bind fun t389 => (if t389 = true then (none) else ((apogeelaw12_of.f 1 1 2 2).bind fun bt390 => ((box_Relate.f k bt390.1 bt390.2.1 bt390.2.2.1 bt390.2.2.2 y296).bind fun t394 => (if t394 = 1 then ((apogeelaw12_of.f 3 3 5 5).bind fun bt395 => ((box_Relate.f k bt395.1 bt395.2.1 bt395.2.2.1 bt395.2.2.2 y296).bind fun t399 => (if t399 = 0 then ((apogeelaw12_of.f 6 6 7 7).bind fun bt400 => ((box_Relate.f k bt400.1 bt400.2.1 bt400.2.2.1 bt400.2.2.2 y296).bind fun t404 => (if t404 = (-1) then ((apogeelaw12_of.f 1 1 2 2).bind fun bt405 => ((box_Corners.f bt405.1 bt405.2.1 bt405.2.2.1 bt405.2.2.2).bind fun t409 => (some ((t409.length : Int) == 4)))) else (none)))) else (none)))) else (none))))))) else (none))))) else (none)) else (none))) else (none))))) = some r := H
 have A25 := bA A250
 clear A250
 replace H := Option.bind_eq_some_iff.mp H
 obtain ⟨⟨t364, t365, t366, t367⟩, A260, H⟩ := H
 replace H : ((box_Join.f k t360 t361 t362 t363 t364 t365 t366 t367).bind fun bt368 => ((apogeelaw12_of.f 0 0 4 4).bind fun bt372 => (if ((bt368.1 == bt372.1 && (bt368.2.1 == bt372.2.1)) && ((bt368.2.2.1 == bt372.2.2.1 && (bt368.2.2.2 == bt372.2.2.2)))) = true then ((apogeelaw12_of.f 0 0 3 3).bind fun bt376 => (if ((t303 == bt376.1 && (t304 == bt376.2.1)) && ((t305 == bt376.2.2.1 && (t306 == bt376.2.2.2)))) = true then (if t307 = true then (if t317 = true then (none) else ((apogeelaw12_of.f 1 1 2 2).bind fun bt380 => ((box_Meets.f k bt380.1 bt380.2.1 bt380.2.2.1 bt380.2.2.2 0 0 3 3).bind fun t384 => (if t384 = true then ((apogeelaw12_of.f 1 1 2 2).bind fun bt385 => ((box_Meets.f k bt385.1 bt385.2.1 bt385.2.2.1 bt385.2.2.2 0 0 3 0).bind fun t389 => (if t389 = true then (none) else ((apogeelaw12_of.f 1 1 2 2).bind fun bt390 => ((box_Relate.f k bt390.1 bt390.2.1 bt390.2.2.1 bt390.2.2.2 y296).bind fun t394 => (if t394 = 1 then ((apogeelaw12_of.f 3 3 5 5).bind fun bt395 => ((box_Relate.f k bt395.1 bt395.2.1 bt395.2.2.1 bt395.2.2.2 y296).bind fun t399 => (if t399 = 0 then ((apogeelaw12_of.f 6 6 7 7).bind fun bt400 => ((box_Relate.f k bt400.1 bt400.2.1 bt400.2.2.1 bt400.2.2.2 y296).bind fun t404 => (if t404 = (-1) then ((apogeelaw12_of.f 1 1 2 2).bind fun bt405 => ((box_Corners.f bt405.1 bt405.2.1 bt405.2.2.1 bt405.2.2.2).bind fun t409 => (some ((t409.length : Int) == 4)))) else (none)))) else (none)))) else (none))))))) else (none))))) else (none)) else (none))) else (none)))) = some r := H
 have A26 := bA A260
 clear A260
 replace H := Option.bind_eq_some_iff.mp H
 obtain ⟨⟨t368, t369, t370, t371⟩, A270, H⟩ := H
 replace H : ((apogeelaw12_of.f 0 0 4 4).bind fun bt372 => (if ((t368 == bt372.1 && (t369 == bt372.2.1)) && ((t370 == bt372.2.2.1 && (t371 == bt372.2.2.2)))) = true then ((apogeelaw12_of.f 0 0 3 3).bind fun bt376 => (if ((t303 == bt376.1 && (t304 == bt376.2.1)) && ((t305 == bt376.2.2.1 && (t306 == bt376.2.2.2)))) = true then (if t307 = true then (if t317 = true then (none) else ((apogeelaw12_of.f 1 1 2 2).bind fun bt380 => ((box_Meets.f k bt380.1 bt380.2.1 bt380.2.2.1 bt380.2.2.2 0 0 3 3).bind fun t384 => (if t384 = true then ((apogeelaw12_of.f 1 1 2 2).bind fun bt385 => ((box_Meets.f k bt385.1 bt385.2.1 bt385.2.2.1 bt385.2.2.2 0 0 3 0).bind fun t389 => (if t389 = true then (none) else ((apogeelaw12_of.f 1 1 2 2).bind fun bt390 => ((box_Relate.f k bt390.1 bt390.2.1 bt390.2.2.1 bt390.2.2.2 y296).bind fun t394 => (if t394 = 1 then ((apogeelaw12_of.f 3 3 5 5).bind fun bt395 => ((box_Relate.f k bt395.1 bt395.2.1 bt395.2.2.1 bt395.2.2.2 y296).bind fun t399 => (if t399 = 0 then ((apogeelaw12_of.f 6 6 7 7).bind fun bt400 => ((box_Relate.f k bt400.1 bt400.2.1 bt400.2.2.1 bt400.2.2.2 y296).bind fun t404 => (if t404 = (-1) then ((apogeelaw12_of.f 1 1 2 2).bind fun bt405 => ((box_Corners.f bt405.1 bt405.2.1 bt405.2.2.1 bt405.2.2.2).bind fun t409 => (some ((t409.length : Int) == 4)))) else (none)))) else (none)))) else (none))))))) else (none))))) else (none)) else (none))) else (none))) = some r := H
 have A27 := bA A270
 clear A270
 replace H := Option.bind_eq_some_iff.mp H
 obtain ⟨⟨t372, t373, t374, t375⟩, A280, H⟩ := H
 replace H : (if ((t368 == t372 && (t369 == t373)) && ((t370 == t374 && (t371 == t375)))) = true then ((apogeelaw12_of.f 0 0 3 3).bind fun bt376 => (if ((t303 == bt376.1 && (t304 == bt376.2.1)) && ((t305 == bt376.2.2.1 && (t306 == bt376.2.2.2)))) = true then (if t307 = true then (if t317 = true then (none) else ((apogeelaw12_of.f 1 1 2 2).bind fun bt380 => ((box_Meets.f k bt380.1 bt380.2.1 bt380.2.2.1 bt380.2.2.2 0 0 3 3).bind fun t384 => (if t384 = true then ((apogeelaw12_of.f 1 1 2 2).bind fun bt385 => ((box_Meets.f k bt385.1 bt385.2.1 bt385.2.2.1 bt385.2.2.2 0 0 3 0).bind fun t389 => (if t389 = true then (none) else ((apogeelaw12_of.f 1 1 2 2).bind fun bt390 => ((box_Relate.f k bt390.1 bt390.2.1 bt390.2.2.1 bt390.2.2.2 y296).bind fun t394 => (if t394 = 1 then ((apogeelaw12_of.f 3 3 5 5).bind fun bt395 => ((box_Relate.f k bt395.1 bt395.2.1 bt395.2.2.1 bt395.2.2.2 y296).bind fun t399 => (if t399 = 0 then ((apogeelaw12_of.f 6 6 7 7).bind fun bt400 => ((box_Relate.f k bt400.1 bt400.2.1 bt400.2.2.1 bt400.2.2.2 y296).bind fun t404 => (if t404 = (-1) then ((apogeelaw12_of.f 1 1 2 2).bind fun bt405 => ((box_Corners.f bt405.1 bt405.2.1 bt405.2.2.1 bt405.2.2.2).bind fun t409 => (some ((t409.length : Int) == 4)))) else (none)))) else (none)))) else (none))))))) else (none))))) else (none)) else (none))) else (none)) = some r := H
 have A28 := bA A280
 clear A280
 by_cases c29 : ((t368 == t372 && (t369 == t373)) && ((t370 == t374 && (t371 == t375)))) = true
 rotate_left
 ·rw [if_neg c29] at H
  have c29b0 : ((t368 == t372 && (t369 == t373)) && ((t370 == t374 && (t371 == t375)))) = false := by simpa using c29
  clear c29
  exact absurd H (by simp)
 rw [if_pos c29] at H
 have c29b0 : ((t368 == t372 && (t369 == t373)) && ((t370 == t374 && (t371 == t375)))) = true := c29
 clear c29
 replace H := Option.bind_eq_some_iff.mp H
 obtain ⟨⟨t376, t377, t378, t379⟩, A300, H⟩ := H
 replace H : (if ((t303 == t376 && (t304 == t377)) && ((t305 == t378 && (t306 == t379)))) = true then (if t307 = true then (if t317 = true then (none) else ((apogeelaw12_of.f 1 1 2 2).bind fun bt380 => ((box_Meets.f k bt380.1 bt380.2.1 bt380.2.2.1 bt380.2.2.2 0 0 3 3).bind fun t384 => (if t384 = true then ((apogeelaw12_of.f 1 1 2 2).bind fun bt385 => ((box_Meets.f k bt385.1 bt385.2.1 bt385.2.2.1 bt385.2.2.2 0 0 3 0).bind fun t389 => (if t389 = true then (none) else ((apogeelaw12_of.f 1 1 2 2).bind fun bt390 => ((box_Relate.f k bt390.1 bt390.2.1 bt390.2.2.1 bt390.2.2.2 y296).bind fun t394 => (if t394 = 1 then ((apogeelaw12_of.f 3 3 5 5).bind fun bt395 => ((box_Relate.f k bt395.1 bt395.2.1 bt395.2.2.1 bt395.2.2.2 y296).bind fun t399 => (if t399 = 0 then ((apogeelaw12_of.f 6 6 7 7).bind fun bt400 => ((box_Relate.f k bt400.1 bt400.2.1 bt400.2.2.1 bt400.2.2.2 y296).bind fun t404 => (if t404 = (-1) then ((apogeelaw12_of.f 1 1 2 2).bind fun bt405 => ((box_Corners.f bt405.1 bt405.2.1 bt405.2.2.1 bt405.2.2.2).bind fun t409 => (some ((t409.length : Int) == 4)))) else (none)))) else (none)))) else (none))))))) else (none))))) else (none)) else (none)) = some r := H
 have A30 := bA A300
 clear A300
 by_cases c31 : ((t303 == t376 && (t304 == t377)) && ((t305 == t378 && (t306 == t379)))) = true
 rotate_left
 ·rw [if_neg c31] at H
  have c31b0 : ((t303 == t376 && (t304 == t377)) && ((t305 == t378 && (t306 == t379)))) = false := by simpa using c31
  clear c31
  exact absurd H (by simp)
 rw [if_pos c31] at H
 have c31b0 : ((t303 == t376 && (t304 == t377)) && ((t305 == t378 && (t306 == t379)))) = true := c31
 clear c31
 by_cases c32 : t307 = true
 rotate_left
 ·replace c32 := Bool.eq_false_iff.mpr c32
  subst c32
  rw [if_neg bn] at H
  exact absurd H (by simp)
 subst c32
 rw [if_pos rfl] at H
 by_cases c33 : t317 = true
 ·subst c33
  rw [if_pos rfl] at H
  exact absurd H (by simp)
 replace c33 := Bool.eq_false_iff.mpr c33
 subst c33
 rw [if_neg bn] at H
 replace H := Option.bind_eq_some_iff.mp H
 obtain ⟨⟨t380, t381, t382, t383⟩, A340, H⟩ := H
 replace H : ((box_Meets.f k t380 t381 t382 t383 0 0 3 3).bind fun t384 => (if t384 = true then ((apogeelaw12_of.f 1 1 2 2).bind fun bt385 => ((box_Meets.f k bt385.1 bt385.2.1 bt385.2.2.1 bt385.2.2.2 0 0 3 0).bind fun t389 => (if t389 = true then (none) else ((apogeelaw12_of.f 1 1 2 2).bind fun bt390 => ((box_Relate.f k bt390.1 bt390.2.1 bt390.2.2.1 bt390.2.2.2 y296).bind fun t394 => (if t394 = 1 then ((apogeelaw12_of.f 3 3 5 5).bind fun bt395 => ((box_Relate.f k bt395.1 bt395.2.1 bt395.2.2.1 bt395.2.2.2 y296).bind fun t399 => (if t399 = 0 then ((apogeelaw12_of.f 6 6 7 7).bind fun bt400 => ((box_Relate.f k bt400.1 bt400.2.1 bt400.2.2.1 bt400.2.2.2 y296).bind fun t404 => (if t404 = (-1) then ((apogeelaw12_of.f 1 1 2 2).bind fun bt405 => ((box_Corners.f bt405.1 bt405.2.1 bt405.2.2.1 bt405.2.2.2).bind fun t409 => (some ((t409.length : Int) == 4)))) else (none)))) else (none)))) else (none))))))) else (none))) = some r := H
 have A34 := bA A340
 clear A340
 replace H := Option.bind_eq_some_iff.mp H
 obtain ⟨t384, A350, H⟩ := H
 have A35 := bA A350
 clear A350
 by_cases c36 : t384 = true
 rotate_left
 ·replace c36 := Bool.eq_false_iff.mpr c36
  subst c36
  rw [if_neg bn] at H
  exact absurd H (by simp)
 subst c36
 rw [if_pos rfl] at H
 replace H := Option.bind_eq_some_iff.mp H
 obtain ⟨⟨t385, t386, t387, t388⟩, A370, H⟩ := H
 replace H : ((box_Meets.f k t385 t386 t387 t388 0 0 3 0).bind fun t389 => (if t389 = true then (none) else ((apogeelaw12_of.f 1 1 2 2).bind fun bt390 => ((box_Relate.f k bt390.1 bt390.2.1 bt390.2.2.1 bt390.2.2.2 y296).bind fun t394 => (if t394 = 1 then ((apogeelaw12_of.f 3 3 5 5).bind fun bt395 => ((box_Relate.f k bt395.1 bt395.2.1 bt395.2.2.1 bt395.2.2.2 y296).bind fun t399 => (if t399 = 0 then ((apogeelaw12_of.f 6 6 7 7).bind fun bt400 => ((box_Relate.f k bt400.1 bt400.2.1 bt400.2.2.1 bt400.2.2.2 y296).bind fun t404 => (if t404 = (-1) then ((apogeelaw12_of.f 1 1 2 2).bind fun bt405 => ((box_Corners.f bt405.1 bt405.2.1 bt405.2.2.1 bt405.2.2.2).bind fun t409 => (some ((t409.length : Int) == 4)))) else (none)))) else (none)))) else (none)))))) = some r := H
 have A37 := bA A370
 clear A370
 replace H := Option.bind_eq_some_iff.mp H
 obtain ⟨t389, A380, H⟩ := H
 have A38 := bA A380
 clear A380
 by_cases c39 : t389 = true
 ·subst c39
  rw [if_pos rfl] at H
  exact absurd H (by simp)
 replace c39 := Bool.eq_false_iff.mpr c39
 subst c39
 rw [if_neg bn] at H
 replace H := Option.bind_eq_some_iff.mp H
 obtain ⟨⟨t390, t391, t392, t393⟩, A400, H⟩ := H
 replace H : ((box_Relate.f k t390 t391 t392 t393 y296).bind fun t394 => (if t394 = 1 then ((apogeelaw12_of.f 3 3 5 5).bind fun bt395 => ((box_Relate.f k bt395.1 bt395.2.1 bt395.2.2.1 bt395.2.2.2 y296).bind fun t399 => (if t399 = 0 then ((apogeelaw12_of.f 6 6 7 7).bind fun bt400 => ((box_Relate.f k bt400.1 bt400.2.1 bt400.2.2.1 bt400.2.2.2 y296).bind fun t404 => (if t404 = (-1) then ((apogeelaw12_of.f 1 1 2 2).bind fun bt405 => ((box_Corners.f bt405.1 bt405.2.1 bt405.2.2.1 bt405.2.2.2).bind fun t409 => (some ((t409.length : Int) == 4)))) else (none)))) else (none)))) else (none))) = some r := H
 have A40 := bA A400
 clear A400
 replace H := Option.bind_eq_some_iff.mp H
 obtain ⟨t394, A410, H⟩ := H
 have A41 := bA A410
 clear A410
 by_cases c42 : t394 = 1
 rotate_left
 ·rw [if_neg c42] at H
  have c42b0 : (t394 == 1) = false := beq_eq_false_iff_ne.mpr c42
  have c42b1 : (t394 != 1) = true := bne_iff_ne.mpr c42
  exact absurd H (by simp)
 rw [if_pos c42] at H
 have c42b0 : (t394 == 1) = true := beq_iff_eq.mpr c42
 have c42b1 : (t394 != 1) = false := bne_eq_false_iff_eq.mpr c42
 clear c42
 replace H := Option.bind_eq_some_iff.mp H
 obtain ⟨⟨t395, t396, t397, t398⟩, A430, H⟩ := H
 replace H : ((box_Relate.f k t395 t396 t397 t398 y296).bind fun t399 => (if t399 = 0 then ((apogeelaw12_of.f 6 6 7 7).bind fun bt400 => ((box_Relate.f k bt400.1 bt400.2.1 bt400.2.2.1 bt400.2.2.2 y296).bind fun t404 => (if t404 = (-1) then ((apogeelaw12_of.f 1 1 2 2).bind fun bt405 => ((box_Corners.f bt405.1 bt405.2.1 bt405.2.2.1 bt405.2.2.2).bind fun t409 => (some ((t409.length : Int) == 4)))) else (none)))) else (none))) = some r := H
 have A43 := bA A430
 clear A430
 replace H := Option.bind_eq_some_iff.mp H
 obtain ⟨t399, A440, H⟩ := H
 have A44 := bA A440
 clear A440
 by_cases c45 : t399 = 0
 rotate_left
 ·rw [if_neg c45] at H
  have c45b0 : (t399 == 0) = false := beq_eq_false_iff_ne.mpr c45
  have c45b1 : (t399 != 0) = true := bne_iff_ne.mpr c45
  exact absurd H (by simp)
 rw [if_pos c45] at H
 have c45b0 : (t399 == 0) = true := beq_iff_eq.mpr c45
 have c45b1 : (t399 != 0) = false := bne_eq_false_iff_eq.mpr c45
 clear c45
 replace H := Option.bind_eq_some_iff.mp H
 obtain ⟨⟨t400, t401, t402, t403⟩, A460, H⟩ := H
 replace H : ((box_Relate.f k t400 t401 t402 t403 y296).bind fun t404 => (if t404 = (-1) then ((apogeelaw12_of.f 1 1 2 2).bind fun bt405 => ((box_Corners.f bt405.1 bt405.2.1 bt405.2.2.1 bt405.2.2.2).bind fun t409 => (some ((t409.length : Int) == 4)))) else (none))) = some r := H
 have A46 := bA A460
 clear A460
 replace H := Option.bind_eq_some_iff.mp H
 obtain ⟨t404, A470, H⟩ := H
 have A47 := bA A470
 clear A470
 by_cases c48 : t404 = (-1)
 rotate_left
 ·rw [if_neg c48] at H
  have c48b0 : (t404 == (-1)) = false := beq_eq_false_iff_ne.mpr c48
  have c48b1 : (t404 != (-1)) = true := bne_iff_ne.mpr c48
  exact absurd H (by simp)
 rw [if_pos c48] at H
 have c48b0 : (t404 == (-1)) = true := beq_iff_eq.mpr c48
 have c48b1 : (t404 != (-1)) = false := bne_eq_false_iff_eq.mpr c48
 clear c48
 replace H := Option.bind_eq_some_iff.mp H
 obtain ⟨⟨t405, t406, t407, t408⟩, A490, H⟩ := H
 replace H : ((box_Corners.f t405 t406 t407 t408).bind fun t409 => (some ((t409.length : Int) == 4))) = some r := H
 have A49 := bA A490
 clear A490
 replace H := Option.bind_eq_some_iff.mp H
 obtain ⟨t409, A500, H⟩ := H
 have A50 := bA A500
 clear A500
 obtain rfl := Option.some.inj H
 go_enter Try.func44, Try.ntmps44
 try go_wp2_with (first | ((with_reducible refine gate_dst (N := 10) rfl ?_); (try (refine gate_guard (by rfl) ?_; dsimp only)); refine Kd.R_lit k41 _ 41 ?hg (N := 10) ?hd (xs := ([(⟨0, 0⟩ : S41), (⟨4, 0⟩ : S41), (⟨4, 4⟩ : S41), (⟨0, 4⟩ : S41)] : List (S41))) (inner := [.int .i64 0, .int .i64 0, .int .i64 4, .int .i64 0, .int .i64 4, .int .i64 4, .int .i64 0, .int .i64 4]) (ok := fun _ => True) (okp := fun _ => True) ?hr ?hp (fun _ hk => hk) trivial (Below.refl _ _) (Nat.le_refl _) (by simp) ?_; (case hd => rfl); (case hg => rfl); (case hr => first | (go_simp; done) | (go_simp; rfl)); (case hp => exact (Reps.c2 (show Kd.M k41 _ _ _ (⟨0, 0⟩ : S41) [.int .i64 0, .int .i64 0] from (k41_mkM _ _ _ (⟨0, 0⟩ : S41) )) (Reps.c2 (show Kd.M k41 _ _ _ (⟨4, 0⟩ : S41) [.int .i64 4, .int .i64 0] from (k41_mkM _ _ _ (⟨4, 0⟩ : S41) )) (Reps.c2 (show Kd.M k41 _ _ _ (⟨4, 4⟩ : S41) [.int .i64 4, .int .i64 4] from (k41_mkM _ _ _ (⟨4, 4⟩ : S41) )) (Reps.c2 (show Kd.M k41 _ _ _ (⟨0, 4⟩ : S41) [.int .i64 0, .int .i64 4] from (k41_mkM _ _ _ (⟨0, 4⟩ : S41) )) (Reps.none _ _)))))); intro v297 w51 ho52 hb hg_ hnew_; clear hg_ hnew_; (first | rw [← Ny296.out] at ho52 | (simp only [Int.reduceToNat] at ho52; rw [← Ny296.out] at ho52)); have HO298 := bA (Kd.R_lower ho52 bY); replace HB := bA (bS hb); clear hb ho52) | ((first | ((with_reducible refine gate_callee (f := 92) rfl ?_); refine bC (some 12) Try.func92 #[.int .i64 1, .int .i64 1, .int .i64 2, .int .i64 2] ?_) | go_at_call 92); (with_reducible refine (apogeelaw12_of.calls 1 1 2 2 t299 t300 t301 t302 _ A1.out).mono ?_); rintro e w53 ⟨rfl, hb⟩; (first | refine ⟨_, rfl, ?_⟩ | skip); replace HO298 := bA (Kd.R_below (bRr HO298) hb); replace HB := bA (bS hb); (try clear hb)) | ((first | ((with_reducible refine gate_callee (f := 91) rfl ?_); refine bC (some 13) Try.func91 #[.agg #[.int .i64 t299, .int .i64 t300, .int .i64 t301, .int .i64 t302], .int .i64 1] ?_) | go_at_call 91); (with_reducible refine (box_Grow.calls k t299 t300 t301 t302 1 t303 t304 t305 t306 true _ A2.out).mono ?_); rintro e w54 ⟨rfl, hb⟩; (first | refine ⟨_, rfl, ?_⟩ | skip); replace HO298 := bA (Kd.R_below (bRr HO298) hb); replace HB := bA (bS hb); (try clear hb)) | ((with_reducible refine gate_dst (N := 2) rfl ?_); (try (refine gate_guard (by rfl) ?_; dsimp only)); refine bE (N := 2) (cs := #[.int .i64 0, .int .i64 0, .int .i64 0, .int .i64 0]) (t := 44) ?_; intro gb308 hg w55 hbox hb; have BK308 := bA (hbox); have GW308 := bA (bZ hg); have GE308 := bA (bZ hg); replace HO298 := bA (Kd.R_below (bRr HO298) hb); replace HB := bA (bS hb); clear hb hbox hg; obtain ⟨hcz56_0, hcz56_1, hcz56_2, hcz56_3, hfz56_0, hfz56_1, hfz56_2, hfz56_3⟩ := bc4 BK308) | ((first | ((with_reducible refine gate_callee (f := 92) rfl ?_); refine bC (some 17) Try.func92 #[.int .i64 1, .int .i64 1, .int .i64 2, .int .i64 2] ?_) | go_at_call 92); (with_reducible refine (apogeelaw12_of.calls 1 1 2 2 t309 t310 t311 t312 _ A3.out).mono ?_); rintro e w57 ⟨rfl, hb⟩; (first | refine ⟨_, rfl, ?_⟩ | skip); replace HO298 := bA (Kd.R_below (by (with_reducible repeat (first | apply Kd.R_alloc | apply Kd.R_drewN | apply Kd.R_drew)); exact (Kd.R_mono (Kd.R_far (p := ⟨gb308, 3, none⟩) (Kd.R_far (p := ⟨gb308, 2, none⟩) (Kd.R_far (p := ⟨gb308, 1, none⟩) (Kd.R_far (p := ⟨gb308, 0, none⟩) (Kd.R_types HO298.out BK308.out (by decide)) (fun _ hk => hk.2) (.int .i64 t303)) (fun _ hk => hk.2) (.int .i64 t304)) (fun _ hk => hk.2) (.int .i64 t305)) (fun _ hk => hk.2) (.int .i64 t306)) (fun _ h_ => h_.1))) hb); replace BK308 := bA (blk_below (g := gb308) (o := .cells #[.int .i64 t303, .int .i64 t304, .int .i64 t305, .int .i64 t306] 44 (0, 0)) (by (with_reducible repeat (first | refine blk_drewN ?_ _ | refine blk_drew ?_ | refine blk_alloc ?_ _)); refine blk_put (cs := #[.int .i64 t303, .int .i64 t304, .int .i64 t305, .int .i64 0]) ?_ 3 _ rfl; (with_reducible repeat (first | refine blk_drewN ?_ _ | refine blk_drew ?_ | refine blk_alloc ?_ _)); refine blk_put (cs := #[.int .i64 t303, .int .i64 t304, .int .i64 0, .int .i64 0]) ?_ 2 _ rfl; (with_reducible repeat (first | refine blk_drewN ?_ _ | refine blk_drew ?_ | refine blk_alloc ?_ _)); refine blk_put (cs := #[.int .i64 t303, .int .i64 0, .int .i64 0, .int .i64 0]) ?_ 1 _ rfl; (with_reducible repeat (first | refine blk_drewN ?_ _ | refine blk_drew ?_ | refine blk_alloc ?_ _)); refine blk_put (cs := #[.int .i64 0, .int .i64 0, .int .i64 0, .int .i64 0]) ?_ 0 _ rfl; (with_reducible repeat (first | refine blk_drewN ?_ _ | refine blk_drew ?_ | refine blk_alloc ?_ _)); exact BK308.out) hb); replace HB := bA (bS hb); (try clear hb)) | ((first | ((with_reducible refine gate_callee (f := 91) rfl ?_); refine bC (some 18) Try.func91 #[.agg #[.int .i64 t309, .int .i64 t310, .int .i64 t311, .int .i64 t312], .int .i64 (-1)] ?_) | go_at_call 91); (with_reducible refine (box_Grow.calls k t309 t310 t311 t312 (-1) t313 t314 t315 t316 false _ A4.out).mono ?_); rintro e w58 ⟨rfl, hb⟩; (first | refine ⟨_, rfl, ?_⟩ | skip); replace HO298 := bA (Kd.R_below (bRr HO298) hb); replace BK308 := bA (bB BK308 hb); replace HB := bA (bS hb); (try clear hb)) | ((with_reducible refine gate_dst (N := 4) rfl ?_); (try (refine gate_guard (by rfl) ?_; dsimp only)); refine bE (N := 4) (cs := #[.int .i64 0, .int .i64 0, .int .i64 0, .int .i64 0]) (t := 44) ?_; intro gb318 hg w59 hbox hb; have BK318 := bA (hbox); have GW318 := bA (bZ hg); have GE318 := bA (bZ hg); have NB308_318 := bA (bL BK308 hg); have NB318_308 := bA (bG BK308 hg); replace HO298 := bA (Kd.R_below (bRr HO298) hb); replace BK308 := bA (bB BK308 hb); replace HB := bA (bS hb); clear hb hbox hg; have hnb60 := NB318_308.out; have hnc60 := NB308_318.out; obtain ⟨hcz61_0, hcz61_1, hcz61_2, hcz61_3, hfz61_0, hfz61_1, hfz61_2, hfz61_3⟩ := bc4 BK318))
 have n0_ : Aside0 (Kd.R k41 41 ((((w59.setCell ⟨gb318, 0, none⟩ (.int .i64 t313)).setCell ⟨gb318, 1, none⟩ (.int .i64 t314)).setCell ⟨gb318, 2, none⟩ (.int .i64 t315)).setCell ⟨gb318, 3, none⟩ (.int .i64 t316)) w.heap.size (fun _ => True) v297 y296) := ⟨by (with_reducible repeat (first | apply Kd.R_alloc | apply Kd.R_drewN | apply Kd.R_drew)); exact Kd.R_mono (Kd.R_far (p := ⟨gb318, 3, none⟩) (Kd.R_far (p := ⟨gb318, 2, none⟩) (Kd.R_far (p := ⟨gb318, 1, none⟩) (Kd.R_far (p := ⟨gb318, 0, none⟩) (Kd.R_types HO298.out BK318.out (by decide)) (fun _ hk => hk.2) (.int .i64 t313)) (fun _ hk => hk.2) (.int .i64 t314)) (fun _ hk => hk.2) (.int .i64 t315)) (fun _ hk => hk.2) (.int .i64 t316)) (fun _ hk => trivial)⟩
 have n1_ : Aside0 (((((w59.setCell ⟨gb318, 0, none⟩ (.int .i64 t313)).setCell ⟨gb318, 1, none⟩ (.int .i64 t314)).setCell ⟨gb318, 2, none⟩ (.int .i64 t315)).setCell ⟨gb318, 3, none⟩ (.int .i64 t316)).heap[gb308]? = some (.cells #[.int .i64 t303, .int .i64 t304, .int .i64 t305, .int .i64 t306] 44 (0, 0))) := ⟨by (repeat ((with_reducible repeat (first | refine blk_drewN ?_ _ | refine blk_drew ?_ | refine blk_alloc ?_ _)); refine blk_far ?_ NB308_318.out _)); (with_reducible repeat (first | refine blk_drewN ?_ _ | refine blk_drew ?_ | refine blk_alloc ?_ _)); exact BK308.out⟩
 have n2_ : Aside0 (((((w59.setCell ⟨gb318, 0, none⟩ (.int .i64 t313)).setCell ⟨gb318, 1, none⟩ (.int .i64 t314)).setCell ⟨gb318, 2, none⟩ (.int .i64 t315)).setCell ⟨gb318, 3, none⟩ (.int .i64 t316)).heap[gb318]? = some (.cells #[.int .i64 t313, .int .i64 t314, .int .i64 t315, .int .i64 t316] 44 (0, 0))) := ⟨by (with_reducible repeat (first | refine blk_drewN ?_ _ | refine blk_drew ?_ | refine blk_alloc ?_ _)); refine blk_put (cs := #[.int .i64 t313, .int .i64 t314, .int .i64 t315, .int .i64 0]) ?_ 3 _ rfl; (with_reducible repeat (first | refine blk_drewN ?_ _ | refine blk_drew ?_ | refine blk_alloc ?_ _)); refine blk_put (cs := #[.int .i64 t313, .int .i64 t314, .int .i64 0, .int .i64 0]) ?_ 2 _ rfl; (with_reducible repeat (first | refine blk_drewN ?_ _ | refine blk_drew ?_ | refine blk_alloc ?_ _)); refine blk_put (cs := #[.int .i64 t313, .int .i64 0, .int .i64 0, .int .i64 0]) ?_ 1 _ rfl; (with_reducible repeat (first | refine blk_drewN ?_ _ | refine blk_drew ?_ | refine blk_alloc ?_ _)); refine blk_put (cs := #[.int .i64 0, .int .i64 0, .int .i64 0, .int .i64 0]) ?_ 0 _ rfl; (with_reducible repeat (first | refine blk_drewN ?_ _ | refine blk_drew ?_ | refine blk_alloc ?_ _)); exact BK318.out⟩
 have n3_ : Aside0 (Below w.heap.size w ((((w59.setCell ⟨gb318, 0, none⟩ (.int .i64 t313)).setCell ⟨gb318, 1, none⟩ (.int .i64 t314)).setCell ⟨gb318, 2, none⟩ (.int .i64 t315)).setCell ⟨gb318, 3, none⟩ (.int .i64 t316))) := ⟨bX⟩
 (try clear HO298)
 (try clear BK308)
 (try clear BK318)
 (try clear HB)
 generalize ((((w59.setCell ⟨gb318, 0, none⟩ (.int .i64 t313)).setCell ⟨gb318, 1, none⟩ (.int .i64 t314)).setCell ⟨gb318, 2, none⟩ (.int .i64 t315)).setCell ⟨gb318, 3, none⟩ (.int .i64 t316)) = w62 at n0_ n1_ n2_ n3_ ⊢
 have HO298 := n0_
 have BK308 := n1_
 have BK318 := n2_
 have HB := n3_
 clear n0_ n1_ n2_ n3_
 replace HO298 := bA (Kd.R_drew HO298.out)
 replace BK308 := bA (blk_drew BK308.out)
 replace BK318 := bA (blk_drew BK318.out)
 replace HB := bA (below_drew1 HB.out)
 refine start_ (n := 86) (S := fun w' => w'.cell? ⟨gb308, 0, none⟩ = some (.int .i64 t303) ∧ w'.cell? ⟨gb308, 1, none⟩ = some (.int .i64 t304) ∧ w'.cell? ⟨gb308, 2, none⟩ = some (.int .i64 t305) ∧ w'.cell? ⟨gb308, 3, none⟩ = some (.int .i64 t306)) (ds := []) #[false,false,false,false,false,false,false,false,false,false,false,false,false,false,false,false,false,false,false,false,false,false,false,false,false,false,false,false,false,false,false,false,false,false,false,false,false,false,false,false,false,false,false,false,false,false,false,false,false,false,false,false,false,false,false,false,false,false,false,false,false,false,false,false,false,false,false,false,false,false,false,false,false,false,false,false,false,false,false,false,false,false,false,false,false,false] (by kernel_rfl) rfl rfl ⟨bq BK308 0, bq BK308 1, bq BK308 2, bq BK308 3⟩ (fun hHeld => ?_); refine with_tabW apogeelaw12_awake.tab4 apogeelaw12_awake.bits4 (fun HT_ HW_ => ?_)
 generalize w62.drew = w63 at HO298 BK308 BK318 HB hHeld ⊢
 refine one_ (i := 0) (N := some 21) #[true,false,false,false,false,false,false,false,false,false,false,false,false,false,false,false,false,false,false,false,false,false,false,false,false,false,false,false,false,false,false,false,false,false,false,false,false,false,false,false,false,false,false,false,false,false,false,false,false,false,false,false,false,false,false,false,false,false,false,false,false,false,false,false,false,false,false,false,false,false,false,false,false,false,false,false,false,false,false,false,false,false,false,false,false,false] rfl rfl (one_of HT_.out (by kernel_rfl)) (by decide) (fun K hK => ?_)
 refine goes_ Try.func92 (by kernel_rfl) rfl #[.int .i64 1, .int .i64 1, .int .i64 2, .int .i64 2] (by rfl) rfl rfl (by (try simp only [List.map_toArray, List.map_cons, List.map_nil]); first | done | rfl | (simp only [List.length_drop, List.length_take]; rfl)) ?_
 with_reducible refine (apogeelaw12_of.calls 1 1 2 2 t319 t320 t321 t322 _ A5.out).mono ?_
 rintro e w64 ⟨rfl, hb⟩
 refine ⟨_, rfl, ?_⟩
 replace HO298 := bA (Kd.R_below (bRr HO298) hb)
 replace BK308 := bA (bB BK308 hb)
 replace BK318 := bA (bB BK318 hb)
 replace HB := bA (bS hb)
 (try clear hb)
 refine hK.out _ _ ⟨bq BK308 0, bq BK308 1, bq BK308 2, bq BK308 3⟩ (fun hHeld => ?_)
 clear hK K
 refine bH ?_
 refine one_ (i := 1) (N := some 22) #[true,true,false,false,false,false,false,false,false,false,false,false,false,false,false,false,false,false,false,false,false,false,false,false,false,false,false,false,false,false,false,false,false,false,false,false,false,false,false,false,false,false,false,false,false,false,false,false,false,false,false,false,false,false,false,false,false,false,false,false,false,false,false,false,false,false,false,false,false,false,false,false,false,false,false,false,false,false,false,false,false,false,false,false,false,false] rfl rfl (one_of HT_.out (by kernel_rfl)) (by decide) (fun K hK => ?_)
 refine goes_ Try.func87 (by kernel_rfl) rfl #[.agg #[.int .i64 t319, .int .i64 t320, .int .i64 t321, .int .i64 t322]] (by rfl) rfl rfl (by (try simp only [List.map_toArray, List.map_cons, List.map_nil]); first | done | rfl | (simp only [List.length_drop, List.length_take]; rfl)) ?_
 with_reducible refine (box_Right.calls t319 t320 t321 t322 true _ A6.out).mono ?_
 rintro e w65 ⟨rfl, hb⟩
 refine ⟨_, rfl, ?_⟩
 replace HO298 := bA (Kd.R_below (bRr HO298) hb)
 replace BK308 := bA (bB BK308 hb)
 replace BK318 := bA (bB BK318 hb)
 replace HB := bA (bS hb)
 (try clear hb)
 refine hK.out _ _ ⟨bq BK308 0, bq BK308 1, bq BK308 2, bq BK308 3⟩ (fun hHeld => ?_)
 clear hK K
 refine bH ?_
 refine bU (i := 2) (N := some 23) ?_
 refine one_ (i := 3) (N := some 24) #[true,true,true,true,false,false,false,false,false,false,false,false,false,false,false,false,false,false,false,false,false,false,false,false,false,false,false,false,false,false,false,false,false,false,false,false,false,false,false,false,false,false,false,false,false,false,false,false,false,false,false,false,false,false,false,false,false,false,false,false,false,false,false,false,false,false,false,false,false,false,false,false,false,false,false,false,false,false,false,false,false,false,false,false,false,false] rfl rfl (one_of HT_.out (by kernel_rfl)) (by decide) (fun K hK => ?_)
 refine goes_ Try.func92 (by kernel_rfl) rfl #[.int .i64 2, .int .i64 1, .int .i64 1, .int .i64 2] (by rfl) rfl rfl (by (try simp only [List.map_toArray, List.map_cons, List.map_nil]); first | done | rfl | (simp only [List.length_drop, List.length_take]; rfl)) ?_
 with_reducible refine (apogeelaw12_of.calls 2 1 1 2 t324 t325 t326 t327 _ A8.out).mono ?_
 rintro e w66 ⟨rfl, hb⟩
 refine ⟨_, rfl, ?_⟩
 replace HO298 := bA (Kd.R_below (bRr HO298) hb)
 replace BK308 := bA (bB BK308 hb)
 replace BK318 := bA (bB BK318 hb)
 replace HB := bA (bS hb)
 (try clear hb)
 refine hK.out _ _ ⟨bq BK308 0, bq BK308 1, bq BK308 2, bq BK308 3⟩ (fun hHeld => ?_)
 clear hK K
 refine bH ?_
 refine one_ (i := 4) (N := some 25) #[true,true,true,true,true,false,false,false,false,false,false,false,false,false,false,false,false,false,false,false,false,false,false,false,false,false,false,false,false,false,false,false,false,false,false,false,false,false,false,false,false,false,false,false,false,false,false,false,false,false,false,false,false,false,false,false,false,false,false,false,false,false,false,false,false,false,false,false,false,false,false,false,false,false,false,false,false,false,false,false,false,false,false,false,false,false] rfl rfl (one_of HT_.out (by kernel_rfl)) (by decide) (fun K hK => ?_)
 refine goes_ Try.func87 (by kernel_rfl) rfl #[.agg #[.int .i64 t324, .int .i64 t325, .int .i64 t326, .int .i64 t327]] (by rfl) rfl rfl (by (try simp only [List.map_toArray, List.map_cons, List.map_nil]); first | done | rfl | (simp only [List.length_drop, List.length_take]; rfl)) ?_
 with_reducible refine (box_Right.calls t324 t325 t326 t327 false _ A9.out).mono ?_
 rintro e w67 ⟨rfl, hb⟩
 refine ⟨_, rfl, ?_⟩
 replace HO298 := bA (Kd.R_below (bRr HO298) hb)
 replace BK308 := bA (bB BK308 hb)
 replace BK318 := bA (bB BK318 hb)
 replace HB := bA (bS hb)
 (try clear hb)
 refine hK.out _ _ ⟨bq BK308 0, bq BK308 1, bq BK308 2, bq BK308 3⟩ (fun hHeld => ?_)
 clear hK K
 refine bH ?_
 refine bU (i := 5) (N := some 26) ?_
 refine bU (i := 6) (N := some 27) ?_
 refine bU (i := 7) (N := some 28) ?_
 refine bU (i := 8) (N := some 29) ?_
 refine one_ (i := 9) (N := some 30) #[true,true,true,true,true,true,true,true,true,true,false,false,false,false,false,false,false,false,false,false,false,false,false,false,false,false,false,false,false,false,false,false,false,false,false,false,false,false,false,false,false,false,false,false,false,false,false,false,false,false,false,false,false,false,false,false,false,false,false,false,false,false,false,false,false,false,false,false,false,false,false,false,false,false,false,false,false,false,false,false,false,false,false,false,false,false] rfl rfl (one_of HT_.out (by kernel_rfl)) (by decide) (fun K hK => ?_)
 refine goes_ Try.func52 (by kernel_rfl) rfl #[.agg #[.int .i64 5, .int .i64 0], .int .i64 2] (by rfl) rfl rfl (by (try simp only [List.map_toArray, List.map_cons, List.map_nil]); first | done | rfl | (simp only [List.length_drop, List.length_take]; rfl)) ?_
 with_reducible refine (box_Of.calls 5 0 2 t329 t330 t331 t332 _ A11.out).mono ?_
 rintro e w68 ⟨rfl, hb⟩
 refine ⟨_, rfl, ?_⟩
 replace HO298 := bA (Kd.R_below (bRr HO298) hb)
 replace BK308 := bA (bB BK308 hb)
 replace BK318 := bA (bB BK318 hb)
 replace HB := bA (bS hb)
 (try clear hb)
 refine hK.out _ _ ⟨bq BK308 0, bq BK308 1, bq BK308 2, bq BK308 3⟩ (fun hHeld => ?_)
 clear hK K
 refine bH ?_
 refine one_ (i := 10) (N := some 31) #[true,true,true,true,true,true,true,true,true,true,true,false,false,false,false,false,false,false,false,false,false,false,false,false,false,false,false,false,false,false,false,false,false,false,false,false,false,false,false,false,false,false,false,false,false,false,false,false,false,false,false,false,false,false,false,false,false,false,false,false,false,false,false,false,false,false,false,false,false,false,false,false,false,false,false,false,false,false,false,false,false,false,false,false,false,false] rfl rfl (one_of HT_.out (by kernel_rfl)) (by decide) (fun K hK => ?_)
 refine goes_ Try.func92 (by kernel_rfl) rfl #[.int .i64 3, .int .i64 (-2), .int .i64 7, .int .i64 2] (by rfl) rfl rfl (by (try simp only [List.map_toArray, List.map_cons, List.map_nil]); first | done | rfl | (simp only [List.length_drop, List.length_take]; rfl)) ?_
 with_reducible refine (apogeelaw12_of.calls 3 (-2) 7 2 t333 t334 t335 t336 _ A12.out).mono ?_
 rintro e w69 ⟨rfl, hb⟩
 refine ⟨_, rfl, ?_⟩
 replace HO298 := bA (Kd.R_below (bRr HO298) hb)
 replace BK308 := bA (bB BK308 hb)
 replace BK318 := bA (bB BK318 hb)
 replace HB := bA (bS hb)
 (try clear hb)
 refine hK.out _ _ ⟨bq BK308 0, bq BK308 1, bq BK308 2, bq BK308 3⟩ (fun hHeld => ?_)
 clear hK K
 refine bH ?_
 refine bU (i := 11) (N := some 32) ?_
 refine bU (i := 12) (N := some 33) ?_
 refine bU (i := 13) (N := some 34) ?_
 refine bU (i := 15) (N := some 36) ?_
 refine one_ (i := 14) (N := some 35) #[true,true,true,true,true,true,true,true,true,true,true,true,true,true,true,true,false,false,false,false,false,false,false,false,false,false,false,false,false,false,false,false,false,false,false,false,false,false,false,false,false,false,false,false,false,false,false,false,false,false,false,false,false,false,false,false,false,false,false,false,false,false,false,false,false,false,false,false,false,false,false,false,false,false,false,false,false,false,false,false,false,false,false,false,false,false] rfl rfl (one_of HT_.out (by kernel_rfl)) (by decide) (fun K hK => ?_)
 refine goes_ Try.func92 (by kernel_rfl) rfl #[.int .i64 1, .int .i64 1, .int .i64 2, .int .i64 2] (by rfl) rfl rfl (by (try simp only [List.map_toArray, List.map_cons, List.map_nil]); first | done | rfl | (simp only [List.length_drop, List.length_take]; rfl)) ?_
 with_reducible refine (apogeelaw12_of.calls 1 1 2 2 t337 t338 t339 t340 _ A14.out).mono ?_
 rintro e w70 ⟨rfl, hb⟩
 refine ⟨_, rfl, ?_⟩
 replace HO298 := bA (Kd.R_below (bRr HO298) hb)
 replace BK308 := bA (bB BK308 hb)
 replace BK318 := bA (bB BK318 hb)
 replace HB := bA (bS hb)
 (try clear hb)
 refine hK.out _ _ ⟨bq BK308 0, bq BK308 1, bq BK308 2, bq BK308 3⟩ (fun hHeld => ?_)
 clear hK K
 refine bH ?_
 refine one_ (i := 16) (N := some 37) #[true,true,true,true,true,true,true,true,true,true,true,true,true,true,true,true,true,false,false,false,false,false,false,false,false,false,false,false,false,false,false,false,false,false,false,false,false,false,false,false,false,false,false,false,false,false,false,false,false,false,false,false,false,false,false,false,false,false,false,false,false,false,false,false,false,false,false,false,false,false,false,false,false,false,false,false,false,false,false,false,false,false,false,false,false,false] rfl rfl (one_of HT_.out (by kernel_rfl)) (by decide) (fun K hK => ?_)
 refine goes_ Try.func46 (by kernel_rfl) rfl #[.agg #[.int .i64 t337, .int .i64 t338, .int .i64 t339, .int .i64 t340], .agg #[.int .i64 2, .int .i64 1]] (by rfl) rfl rfl (by (try simp only [List.map_toArray, List.map_cons, List.map_nil]); first | done | rfl | (simp only [List.length_drop, List.length_take]; rfl)) ?_
 with_reducible refine (box_Has.calls t337 t338 t339 t340 2 1 true _ A15.out).mono ?_
 rintro e w71 ⟨rfl, hb⟩
 refine ⟨_, rfl, ?_⟩
 replace HO298 := bA (Kd.R_below (bRr HO298) hb)
 replace BK308 := bA (bB BK308 hb)
 replace BK318 := bA (bB BK318 hb)
 replace HB := bA (bS hb)
 (try clear hb)
 refine hK.out _ _ ⟨bq BK308 0, bq BK308 1, bq BK308 2, bq BK308 3⟩ (fun hHeld => ?_)
 clear hK K
 refine bH ?_
 refine bU (i := 17) (N := some 38) ?_
 refine bU (i := 18) (N := some 39) ?_
 refine one_ (i := 19) (N := some 40) #[true,true,true,true,true,true,true,true,true,true,true,true,true,true,true,true,true,true,true,true,false,false,false,false,false,false,false,false,false,false,false,false,false,false,false,false,false,false,false,false,false,false,false,false,false,false,false,false,false,false,false,false,false,false,false,false,false,false,false,false,false,false,false,false,false,false,false,false,false,false,false,false,false,false,false,false,false,false,false,false,false,false,false,false,false,false] rfl rfl (one_of HT_.out (by kernel_rfl)) (by decide) (fun K hK => ?_)
 refine goes_ Try.func92 (by kernel_rfl) rfl #[.int .i64 1, .int .i64 1, .int .i64 2, .int .i64 2] (by rfl) rfl rfl (by (try simp only [List.map_toArray, List.map_cons, List.map_nil]); first | done | rfl | (simp only [List.length_drop, List.length_take]; rfl)) ?_
 with_reducible refine (apogeelaw12_of.calls 1 1 2 2 t342 t343 t344 t345 _ A17.out).mono ?_
 rintro e w72 ⟨rfl, hb⟩
 refine ⟨_, rfl, ?_⟩
 replace HO298 := bA (Kd.R_below (bRr HO298) hb)
 replace BK308 := bA (bB BK308 hb)
 replace BK318 := bA (bB BK318 hb)
 replace HB := bA (bS hb)
 (try clear hb)
 refine hK.out _ _ ⟨bq BK308 0, bq BK308 1, bq BK308 2, bq BK308 3⟩ (fun hHeld => ?_)
 clear hK K
 refine bH ?_
 refine one_ (i := 20) (N := some 41) #[true,true,true,true,true,true,true,true,true,true,true,true,true,true,true,true,true,true,true,true,true,false,false,false,false,false,false,false,false,false,false,false,false,false,false,false,false,false,false,false,false,false,false,false,false,false,false,false,false,false,false,false,false,false,false,false,false,false,false,false,false,false,false,false,false,false,false,false,false,false,false,false,false,false,false,false,false,false,false,false,false,false,false,false,false,false] rfl rfl (one_of HT_.out (by kernel_rfl)) (by decide) (fun K hK => ?_)
 refine goes_ Try.func92 (by kernel_rfl) rfl #[.int .i64 0, .int .i64 1, .int .i64 3, .int .i64 3] (by rfl) rfl rfl (by (try simp only [List.map_toArray, List.map_cons, List.map_nil]); first | done | rfl | (simp only [List.length_drop, List.length_take]; rfl)) ?_
 with_reducible refine (apogeelaw12_of.calls 0 1 3 3 t346 t347 t348 t349 _ A18.out).mono ?_
 rintro e w73 ⟨rfl, hb⟩
 refine ⟨_, rfl, ?_⟩
 replace HO298 := bA (Kd.R_below (bRr HO298) hb)
 replace BK308 := bA (bB BK308 hb)
 replace BK318 := bA (bB BK318 hb)
 replace HB := bA (bS hb)
 (try clear hb)
 refine hK.out _ _ ⟨bq BK308 0, bq BK308 1, bq BK308 2, bq BK308 3⟩ (fun hHeld => ?_)
 clear hK K
 refine bH ?_
 refine one_ (i := 21) (N := some 42) #[true,true,true,true,true,true,true,true,true,true,true,true,true,true,true,true,true,true,true,true,true,true,false,false,false,false,false,false,false,false,false,false,false,false,false,false,false,false,false,false,false,false,false,false,false,false,false,false,false,false,false,false,false,false,false,false,false,false,false,false,false,false,false,false,false,false,false,false,false,false,false,false,false,false,false,false,false,false,false,false,false,false,false,false,false,false] rfl rfl (one_of HT_.out (by kernel_rfl)) (by decide) (fun K hK => ?_)
 refine goes_ Try.func51 (by kernel_rfl) rfl #[.agg #[.int .i64 t342, .int .i64 t343, .int .i64 t344, .int .i64 t345], .agg #[.int .i64 t346, .int .i64 t347, .int .i64 t348, .int .i64 t349]] (by rfl) rfl rfl (by (try simp only [List.map_toArray, List.map_cons, List.map_nil]); first | done | rfl | (simp only [List.length_drop, List.length_take]; rfl)) ?_
 with_reducible refine (box_In.calls t342 t343 t344 t345 t346 t347 t348 t349 true _ A19.out).mono ?_
 rintro e w74 ⟨rfl, hb⟩
 refine ⟨_, rfl, ?_⟩
 replace HO298 := bA (Kd.R_below (bRr HO298) hb)
 replace BK308 := bA (bB BK308 hb)
 replace BK318 := bA (bB BK318 hb)
 replace HB := bA (bS hb)
 (try clear hb)
 refine hK.out _ _ ⟨bq BK308 0, bq BK308 1, bq BK308 2, bq BK308 3⟩ (fun hHeld => ?_)
 clear hK K
 refine bH ?_
 refine bU (i := 22) (N := some 43) ?_
 refine bU (i := 23) (N := some 44) ?_
 refine one_ (i := 24) (N := some 45) #[true,true,true,true,true,true,true,true,true,true,true,true,true,true,true,true,true,true,true,true,true,true,true,true,true,false,false,false,false,false,false,false,false,false,false,false,false,false,false,false,false,false,false,false,false,false,false,false,false,false,false,false,false,false,false,false,false,false,false,false,false,false,false,false,false,false,false,false,false,false,false,false,false,false,false,false,false,false,false,false,false,false,false,false,false,false] rfl rfl (one_of HT_.out (by kernel_rfl)) (by decide) (fun K hK => ?_)
 refine goes_ Try.func92 (by kernel_rfl) rfl #[.int .i64 0, .int .i64 1, .int .i64 3, .int .i64 3] (by rfl) rfl rfl (by (try simp only [List.map_toArray, List.map_cons, List.map_nil]); first | done | rfl | (simp only [List.length_drop, List.length_take]; rfl)) ?_
 with_reducible refine (apogeelaw12_of.calls 0 1 3 3 t351 t352 t353 t354 _ A21.out).mono ?_
 rintro e w75 ⟨rfl, hb⟩
 refine ⟨_, rfl, ?_⟩
 replace HO298 := bA (Kd.R_below (bRr HO298) hb)
 replace BK308 := bA (bB BK308 hb)
 replace BK318 := bA (bB BK318 hb)
 replace HB := bA (bS hb)
 (try clear hb)
 refine hK.out _ _ ⟨bq BK308 0, bq BK308 1, bq BK308 2, bq BK308 3⟩ (fun hHeld => ?_)
 clear hK K
 refine bH ?_
 refine one_ (i := 25) (N := some 46) #[true,true,true,true,true,true,true,true,true,true,true,true,true,true,true,true,true,true,true,true,true,true,true,true,true,true,false,false,false,false,false,false,false,false,false,false,false,false,false,false,false,false,false,false,false,false,false,false,false,false,false,false,false,false,false,false,false,false,false,false,false,false,false,false,false,false,false,false,false,false,false,false,false,false,false,false,false,false,false,false,false,false,false,false,false,false] rfl rfl (one_of HT_.out (by kernel_rfl)) (by decide) (fun K hK => ?_)
 refine goes_ Try.func92 (by kernel_rfl) rfl #[.int .i64 1, .int .i64 1, .int .i64 2, .int .i64 2] (by rfl) rfl rfl (by (try simp only [List.map_toArray, List.map_cons, List.map_nil]); first | done | rfl | (simp only [List.length_drop, List.length_take]; rfl)) ?_
 with_reducible refine (apogeelaw12_of.calls 1 1 2 2 t355 t356 t357 t358 _ A22.out).mono ?_
 rintro e w76 ⟨rfl, hb⟩
 refine ⟨_, rfl, ?_⟩
 replace HO298 := bA (Kd.R_below (bRr HO298) hb)
 replace BK308 := bA (bB BK308 hb)
 replace BK318 := bA (bB BK318 hb)
 replace HB := bA (bS hb)
 (try clear hb)
 refine hK.out _ _ ⟨bq BK308 0, bq BK308 1, bq BK308 2, bq BK308 3⟩ (fun hHeld => ?_)
 clear hK K
 refine bH ?_
 refine one_ (i := 26) (N := some 47) #[true,true,true,true,true,true,true,true,true,true,true,true,true,true,true,true,true,true,true,true,true,true,true,true,true,true,true,false,false,false,false,false,false,false,false,false,false,false,false,false,false,false,false,false,false,false,false,false,false,false,false,false,false,false,false,false,false,false,false,false,false,false,false,false,false,false,false,false,false,false,false,false,false,false,false,false,false,false,false,false,false,false,false,false,false,false] rfl rfl (one_of HT_.out (by kernel_rfl)) (by decide) (fun K hK => ?_)
 refine goes_ Try.func51 (by kernel_rfl) rfl #[.agg #[.int .i64 t351, .int .i64 t352, .int .i64 t353, .int .i64 t354], .agg #[.int .i64 t355, .int .i64 t356, .int .i64 t357, .int .i64 t358]] (by rfl) rfl rfl (by (try simp only [List.map_toArray, List.map_cons, List.map_nil]); first | done | rfl | (simp only [List.length_drop, List.length_take]; rfl)) ?_
 with_reducible refine (box_In.calls t351 t352 t353 t354 t355 t356 t357 t358 false _ A23.out).mono ?_
 rintro e w77 ⟨rfl, hb⟩
 refine ⟨_, rfl, ?_⟩
 replace HO298 := bA (Kd.R_below (bRr HO298) hb)
 replace BK308 := bA (bB BK308 hb)
 replace BK318 := bA (bB BK318 hb)
 replace HB := bA (bS hb)
 (try clear hb)
 refine hK.out _ _ ⟨bq BK308 0, bq BK308 1, bq BK308 2, bq BK308 3⟩ (fun hHeld => ?_)
 clear hK K
 refine bH ?_
 refine bU (i := 27) (N := some 48) ?_
 refine bU (i := 28) (N := some 49) ?_
 refine bU (i := 29) (N := some 50) ?_
 refine one_ (i := 30) (N := some 51) #[true,true,true,true,true,true,true,true,true,true,true,true,true,true,true,true,true,true,true,true,true,true,true,true,true,true,true,true,true,true,true,false,false,false,false,false,false,false,false,false,false,false,false,false,false,false,false,false,false,false,false,false,false,false,false,false,false,false,false,false,false,false,false,false,false,false,false,false,false,false,false,false,false,false,false,false,false,false,false,false,false,false,false,false,false,false] rfl rfl (one_of HT_.out (by kernel_rfl)) (by decide) (fun K hK => ?_)
 refine goes_ Try.func92 (by kernel_rfl) rfl #[.int .i64 0, .int .i64 0, .int .i64 1, .int .i64 1] (by rfl) rfl rfl (by (try simp only [List.map_toArray, List.map_cons, List.map_nil]); first | done | rfl | (simp only [List.length_drop, List.length_take]; rfl)) ?_
 with_reducible refine (apogeelaw12_of.calls 0 0 1 1 t360 t361 t362 t363 _ A25.out).mono ?_
 rintro e w78 ⟨rfl, hb⟩
 refine ⟨_, rfl, ?_⟩
 replace HO298 := bA (Kd.R_below (bRr HO298) hb)
 replace BK308 := bA (bB BK308 hb)
 replace BK318 := bA (bB BK318 hb)
 replace HB := bA (bS hb)
 (try clear hb)
 refine hK.out _ _ ⟨bq BK308 0, bq BK308 1, bq BK308 2, bq BK308 3⟩ (fun hHeld => ?_)
 clear hK K
 refine bH ?_
 refine one_ (i := 31) (N := some 52) #[true,true,true,true,true,true,true,true,true,true,true,true,true,true,true,true,true,true,true,true,true,true,true,true,true,true,true,true,true,true,true,true,false,false,false,false,false,false,false,false,false,false,false,false,false,false,false,false,false,false,false,false,false,false,false,false,false,false,false,false,false,false,false,false,false,false,false,false,false,false,false,false,false,false,false,false,false,false,false,false,false,false,false,false,false,false] rfl rfl (one_of HT_.out (by kernel_rfl)) (by decide) (fun K hK => ?_)
 refine goes_ Try.func92 (by kernel_rfl) rfl #[.int .i64 3, .int .i64 3, .int .i64 4, .int .i64 4] (by rfl) rfl rfl (by (try simp only [List.map_toArray, List.map_cons, List.map_nil]); first | done | rfl | (simp only [List.length_drop, List.length_take]; rfl)) ?_
 with_reducible refine (apogeelaw12_of.calls 3 3 4 4 t364 t365 t366 t367 _ A26.out).mono ?_
 rintro e w79 ⟨rfl, hb⟩
 refine ⟨_, rfl, ?_⟩
 replace HO298 := bA (Kd.R_below (bRr HO298) hb)
 replace BK308 := bA (bB BK308 hb)
 replace BK318 := bA (bB BK318 hb)
 replace HB := bA (bS hb)
 (try clear hb)
 refine hK.out _ _ ⟨bq BK308 0, bq BK308 1, bq BK308 2, bq BK308 3⟩ (fun hHeld => ?_)
 clear hK K
 refine bH ?_
 refine one_ (i := 32) (N := some 53) #[true,true,true,true,true,true,true,true,true,true,true,true,true,true,true,true,true,true,true,true,true,true,true,true,true,true,true,true,true,true,true,true,true,false,false,false,false,false,false,false,false,false,false,false,false,false,false,false,false,false,false,false,false,false,false,false,false,false,false,false,false,false,false,false,false,false,false,false,false,false,false,false,false,false,false,false,false,false,false,false,false,false,false,false,false,false] rfl rfl (one_of HT_.out (by kernel_rfl)) (by decide) (fun K hK => ?_)
 refine goes_ Try.func93 (by kernel_rfl) rfl #[.agg #[.int .i64 t360, .int .i64 t361, .int .i64 t362, .int .i64 t363], .agg #[.int .i64 t364, .int .i64 t365, .int .i64 t366, .int .i64 t367]] (by rfl) rfl rfl (by (try simp only [List.map_toArray, List.map_cons, List.map_nil]); first | done | rfl | (simp only [List.length_drop, List.length_take]; rfl)) ?_
 with_reducible refine (box_Join.calls k t360 t361 t362 t363 t364 t365 t366 t367 t368 t369 t370 t371 _ A27.out).mono ?_
 rintro e w80 ⟨rfl, hb⟩
 refine ⟨_, rfl, ?_⟩
 replace HO298 := bA (Kd.R_below (bRr HO298) hb)
 replace BK308 := bA (bB BK308 hb)
 replace BK318 := bA (bB BK318 hb)
 replace HB := bA (bS hb)
 (try clear hb)
 refine hK.out _ _ ⟨bq BK308 0, bq BK308 1, bq BK308 2, bq BK308 3⟩ (fun hHeld => ?_)
 clear hK K
 refine bH ?_
 refine one_ (i := 33) (N := some 54) #[true,true,true,true,true,true,true,true,true,true,true,true,true,true,true,true,true,true,true,true,true,true,true,true,true,true,true,true,true,true,true,true,true,true,false,false,false,false,false,false,false,false,false,false,false,false,false,false,false,false,false,false,false,false,false,false,false,false,false,false,false,false,false,false,false,false,false,false,false,false,false,false,false,false,false,false,false,false,false,false,false,false,false,false,false,false] rfl rfl (one_of HT_.out (by kernel_rfl)) (by decide) (fun K hK => ?_)
 refine goes_ Try.func92 (by kernel_rfl) rfl #[.int .i64 0, .int .i64 0, .int .i64 4, .int .i64 4] (by rfl) rfl rfl (by (try simp only [List.map_toArray, List.map_cons, List.map_nil]); first | done | rfl | (simp only [List.length_drop, List.length_take]; rfl)) ?_
 with_reducible refine (apogeelaw12_of.calls 0 0 4 4 t372 t373 t374 t375 _ A28.out).mono ?_
 rintro e w81 ⟨rfl, hb⟩
 refine ⟨_, rfl, ?_⟩
 replace HO298 := bA (Kd.R_below (bRr HO298) hb)
 replace BK308 := bA (bB BK308 hb)
 replace BK318 := bA (bB BK318 hb)
 replace HB := bA (bS hb)
 (try clear hb)
 refine hK.out _ _ ⟨bq BK308 0, bq BK308 1, bq BK308 2, bq BK308 3⟩ (fun hHeld => ?_)
 clear hK K
 refine bH ?_
 refine bU (i := 34) (N := some 55) ?_
 refine bU (i := 35) (N := some 56) ?_
 refine bU (i := 36) (N := some 57) ?_
 refine bW (i := 37) (N := some 58) hHeld ?_
 refine one_ (i := 38) (N := some 59) #[true,true,true,true,true,true,true,true,true,true,true,true,true,true,true,true,true,true,true,true,true,true,true,true,true,true,true,true,true,true,true,true,true,true,true,true,true,true,true,false,false,false,false,false,false,false,false,false,false,false,false,false,false,false,false,false,false,false,false,false,false,false,false,false,false,false,false,false,false,false,false,false,false,false,false,false,false,false,false,false,false,false,false,false,false,false] rfl rfl (one_of HT_.out (by kernel_rfl)) (by decide) (fun K hK => ?_)
 refine goes_ Try.func92 (by kernel_rfl) rfl #[.int .i64 0, .int .i64 0, .int .i64 3, .int .i64 3] (by rfl) rfl rfl (by (try simp only [List.map_toArray, List.map_cons, List.map_nil]); first | done | rfl | (simp only [List.length_drop, List.length_take]; rfl)) ?_
 with_reducible refine (apogeelaw12_of.calls 0 0 3 3 t376 t377 t378 t379 _ A30.out).mono ?_
 rintro e w82 ⟨rfl, hb⟩
 refine ⟨_, rfl, ?_⟩
 replace HO298 := bA (Kd.R_below (bRr HO298) hb)
 replace BK308 := bA (bB BK308 hb)
 replace BK318 := bA (bB BK318 hb)
 replace HB := bA (bS hb)
 (try clear hb)
 refine hK.out _ _ ⟨bq BK308 0, bq BK308 1, bq BK308 2, bq BK308 3⟩ (fun hHeld => ?_)
 clear hK K
 refine bH ?_
 refine bU (i := 39) (N := some 60) ?_
 refine bU (i := 40) (N := some 61) ?_
 refine bU (i := 41) (N := some 62) ?_
 refine bU (i := 42) (N := some 63) ?_
 refine bU (i := 43) (N := some 64) ?_
 refine bU (i := 44) (N := some 65) ?_
 refine bU (i := 45) (N := some 66) ?_
 refine bU (i := 46) (N := some 67) ?_
 refine bU (i := 47) (N := some 68) ?_
 refine bU (i := 48) (N := some 69) ?_
 refine bU (i := 50) (N := some 71) ?_
 refine bU (i := 51) (N := some 72) ?_
 refine one_ (i := 49) (N := some 70) #[true,true,true,true,true,true,true,true,true,true,true,true,true,true,true,true,true,true,true,true,true,true,true,true,true,true,true,true,true,true,true,true,true,true,true,true,true,true,true,true,true,true,true,true,true,true,true,true,true,true,true,true,false,false,false,false,false,false,false,false,false,false,false,false,false,false,false,false,false,false,false,false,false,false,false,false,false,false,false,false,false,false,false,false,false,false] rfl rfl (one_of HT_.out (by kernel_rfl)) (by decide) (fun K hK => ?_)
 refine goes_ Try.func92 (by kernel_rfl) rfl #[.int .i64 1, .int .i64 1, .int .i64 2, .int .i64 2] (by rfl) rfl rfl (by (try simp only [List.map_toArray, List.map_cons, List.map_nil]); first | done | rfl | (simp only [List.length_drop, List.length_take]; rfl)) ?_
 with_reducible refine (apogeelaw12_of.calls 1 1 2 2 t380 t381 t382 t383 _ A34.out).mono ?_
 rintro e w83 ⟨rfl, hb⟩
 refine ⟨_, rfl, ?_⟩
 replace HO298 := bA (Kd.R_below (bRr HO298) hb)
 replace BK308 := bA (bB BK308 hb)
 replace BK318 := bA (bB BK318 hb)
 replace HB := bA (bS hb)
 (try clear hb)
 refine hK.out _ _ ⟨bq BK308 0, bq BK308 1, bq BK308 2, bq BK308 3⟩ (fun hHeld => ?_)
 clear hK K
 refine bH ?_
 refine one_ (i := 52) (N := some 73) #[true,true,true,true,true,true,true,true,true,true,true,true,true,true,true,true,true,true,true,true,true,true,true,true,true,true,true,true,true,true,true,true,true,true,true,true,true,true,true,true,true,true,true,true,true,true,true,true,true,true,true,true,true,false,false,false,false,false,false,false,false,false,false,false,false,false,false,false,false,false,false,false,false,false,false,false,false,false,false,false,false,false,false,false,false,false] rfl rfl (one_of HT_.out (by kernel_rfl)) (by decide) (fun K hK => ?_)
 refine goes_ Try.func43 (by kernel_rfl) rfl #[.agg #[.int .i64 t380, .int .i64 t381, .int .i64 t382, .int .i64 t383], .agg #[.int .i64 0, .int .i64 0], .agg #[.int .i64 3, .int .i64 3]] (by rfl) rfl rfl (by (try simp only [List.map_toArray, List.map_cons, List.map_nil]); first | done | rfl | (simp only [List.length_drop, List.length_take]; rfl)) ?_
 with_reducible refine (box_Meets.calls k t380 t381 t382 t383 0 0 3 3 true _ A35.out).mono ?_
 rintro e w84 ⟨rfl, hb⟩
 refine ⟨_, rfl, ?_⟩
 replace HO298 := bA (Kd.R_below (bRr HO298) hb)
 replace BK308 := bA (bB BK308 hb)
 replace BK318 := bA (bB BK318 hb)
 replace HB := bA (bS hb)
 (try clear hb)
 refine hK.out _ _ ⟨bq BK308 0, bq BK308 1, bq BK308 2, bq BK308 3⟩ (fun hHeld => ?_)
 clear hK K
 refine bH ?_
 refine bU (i := 53) (N := some 74) ?_
 refine bU (i := 54) (N := some 75) ?_
 refine bU (i := 56) (N := some 77) ?_
 refine bU (i := 57) (N := some 78) ?_
 refine one_ (i := 55) (N := some 76) #[true,true,true,true,true,true,true,true,true,true,true,true,true,true,true,true,true,true,true,true,true,true,true,true,true,true,true,true,true,true,true,true,true,true,true,true,true,true,true,true,true,true,true,true,true,true,true,true,true,true,true,true,true,true,true,true,true,true,false,false,false,false,false,false,false,false,false,false,false,false,false,false,false,false,false,false,false,false,false,false,false,false,false,false,false,false] rfl rfl (one_of HT_.out (by kernel_rfl)) (by decide) (fun K hK => ?_)
 refine goes_ Try.func92 (by kernel_rfl) rfl #[.int .i64 1, .int .i64 1, .int .i64 2, .int .i64 2] (by rfl) rfl rfl (by (try simp only [List.map_toArray, List.map_cons, List.map_nil]); first | done | rfl | (simp only [List.length_drop, List.length_take]; rfl)) ?_
 with_reducible refine (apogeelaw12_of.calls 1 1 2 2 t385 t386 t387 t388 _ A37.out).mono ?_
 rintro e w85 ⟨rfl, hb⟩
 refine ⟨_, rfl, ?_⟩
 replace HO298 := bA (Kd.R_below (bRr HO298) hb)
 replace BK308 := bA (bB BK308 hb)
 replace BK318 := bA (bB BK318 hb)
 replace HB := bA (bS hb)
 (try clear hb)
 refine hK.out _ _ ⟨bq BK308 0, bq BK308 1, bq BK308 2, bq BK308 3⟩ (fun hHeld => ?_)
 clear hK K
 refine bH ?_
 refine one_ (i := 58) (N := some 79) #[true,true,true,true,true,true,true,true,true,true,true,true,true,true,true,true,true,true,true,true,true,true,true,true,true,true,true,true,true,true,true,true,true,true,true,true,true,true,true,true,true,true,true,true,true,true,true,true,true,true,true,true,true,true,true,true,true,true,true,false,false,false,false,false,false,false,false,false,false,false,false,false,false,false,false,false,false,false,false,false,false,false,false,false,false,false] rfl rfl (one_of HT_.out (by kernel_rfl)) (by decide) (fun K hK => ?_)
 refine goes_ Try.func43 (by kernel_rfl) rfl #[.agg #[.int .i64 t385, .int .i64 t386, .int .i64 t387, .int .i64 t388], .agg #[.int .i64 0, .int .i64 0], .agg #[.int .i64 3, .int .i64 0]] (by rfl) rfl rfl (by (try simp only [List.map_toArray, List.map_cons, List.map_nil]); first | done | rfl | (simp only [List.length_drop, List.length_take]; rfl)) ?_
 with_reducible refine (box_Meets.calls k t385 t386 t387 t388 0 0 3 0 false _ A38.out).mono ?_
 rintro e w86 ⟨rfl, hb⟩
 refine ⟨_, rfl, ?_⟩
 replace HO298 := bA (Kd.R_below (bRr HO298) hb)
 replace BK308 := bA (bB BK308 hb)
 replace BK318 := bA (bB BK318 hb)
 replace HB := bA (bS hb)
 (try clear hb)
 refine hK.out _ _ ⟨bq BK308 0, bq BK308 1, bq BK308 2, bq BK308 3⟩ (fun hHeld => ?_)
 clear hK K
 refine bH ?_
 refine bU (i := 59) (N := some 80) ?_
 refine bU (i := 60) (N := some 81) ?_
 refine bU (i := 61) (N := some 82) ?_
 refine bU (i := 63) (N := some 84) ?_
 refine one_ (i := 62) (N := some 83) #[true,true,true,true,true,true,true,true,true,true,true,true,true,true,true,true,true,true,true,true,true,true,true,true,true,true,true,true,true,true,true,true,true,true,true,true,true,true,true,true,true,true,true,true,true,true,true,true,true,true,true,true,true,true,true,true,true,true,true,true,true,true,true,true,false,false,false,false,false,false,false,false,false,false,false,false,false,false,false,false,false,false,false,false,false,false] rfl rfl (one_of HT_.out (by kernel_rfl)) (by decide) (fun K hK => ?_)
 refine goes_ Try.func92 (by kernel_rfl) rfl #[.int .i64 1, .int .i64 1, .int .i64 2, .int .i64 2] (by rfl) rfl rfl (by (try simp only [List.map_toArray, List.map_cons, List.map_nil]); first | done | rfl | (simp only [List.length_drop, List.length_take]; rfl)) ?_
 with_reducible refine (apogeelaw12_of.calls 1 1 2 2 t390 t391 t392 t393 _ A40.out).mono ?_
 rintro e w87 ⟨rfl, hb⟩
 refine ⟨_, rfl, ?_⟩
 replace HO298 := bA (Kd.R_below (bRr HO298) hb)
 replace BK308 := bA (bB BK308 hb)
 replace BK318 := bA (bB BK318 hb)
 replace HB := bA (bS hb)
 (try clear hb)
 obtain ⟨Ao88, co88, eo88⟩ := Kd.R_slice HO298.out
 (first | subst eo88 | (injection eo88 with f1_ f2_ f3_; have f4_ := f1_.symm; have f5_ := f3_.symm; clear f1_ f2_ f3_; subst f4_; subst f5_))
 refine hK.out _ _ ⟨bq BK308 0, bq BK308 1, bq BK308 2, bq BK308 3⟩ (fun hHeld => ?_)
 clear hK K
 refine bH ?_
 refine one_ (i := 64) (N := some 85) #[true,true,true,true,true,true,true,true,true,true,true,true,true,true,true,true,true,true,true,true,true,true,true,true,true,true,true,true,true,true,true,true,true,true,true,true,true,true,true,true,true,true,true,true,true,true,true,true,true,true,true,true,true,true,true,true,true,true,true,true,true,true,true,true,true,false,false,false,false,false,false,false,false,false,false,false,false,false,false,false,false,false,false,false,false,false] rfl rfl (one_of HT_.out (by kernel_rfl)) (by decide) (fun K hK => ?_)
 refine goes_ Try.func47 (by kernel_rfl) rfl #[.agg #[.int .i64 t390, .int .i64 t391, .int .i64 t392, .int .i64 t393], .slice Ao88 y296.length co88] (by rfl) rfl rfl (by (try simp only [List.map_toArray, List.map_cons, List.map_nil]); first | done | rfl | (simp only [List.length_drop, List.length_take]; rfl)) ?_
 with_reducible refine (box_Relate.calls k t390 t391 t392 t393 _ _ y296 t394 _ ?side1 ?side2 A41.out).mono ?_
 (case side1 => repeat (first | exact (Kd.R_reads' HO298.out).2.2 | (with_reducible refine Kd.C_alloc ?_ _) | (with_reducible refine Kd.C_drewN ?_ _) | (with_reducible refine Kd.C_drew ?_)))
 (case side2 => exact (Kd.R_reads' HO298.out).2.1)
 rintro e w89 ⟨rfl, hb⟩
 refine ⟨_, rfl, ?_⟩
 replace HO298 := bA (Kd.R_below (bRr HO298) hb)
 replace BK308 := bA (bB BK308 hb)
 replace BK318 := bA (bB BK318 hb)
 replace HB := bA (bS hb)
 (try clear hb)
 refine hK.out _ _ ⟨bq BK308 0, bq BK308 1, bq BK308 2, bq BK308 3⟩ (fun hHeld => ?_)
 clear hK K
 refine bH ?_
 refine bU (i := 65) (N := some 86) ?_
 refine bU (i := 66) (N := some 87) ?_
 refine bU (i := 67) (N := some 88) ?_
 refine bU (i := 69) (N := some 90) ?_
 refine one_ (i := 68) (N := some 89) #[true,true,true,true,true,true,true,true,true,true,true,true,true,true,true,true,true,true,true,true,true,true,true,true,true,true,true,true,true,true,true,true,true,true,true,true,true,true,true,true,true,true,true,true,true,true,true,true,true,true,true,true,true,true,true,true,true,true,true,true,true,true,true,true,true,true,true,true,true,true,false,false,false,false,false,false,false,false,false,false,false,false,false,false,false,false] rfl rfl (one_of HT_.out (by kernel_rfl)) (by decide) (fun K hK => ?_)
 refine goes_ Try.func92 (by kernel_rfl) rfl #[.int .i64 3, .int .i64 3, .int .i64 5, .int .i64 5] (by rfl) rfl rfl (by (try simp only [List.map_toArray, List.map_cons, List.map_nil]); first | done | rfl | (simp only [List.length_drop, List.length_take]; rfl)) ?_
 with_reducible refine (apogeelaw12_of.calls 3 3 5 5 t395 t396 t397 t398 _ A43.out).mono ?_
 rintro e w90 ⟨rfl, hb⟩
 refine ⟨_, rfl, ?_⟩
 replace HO298 := bA (Kd.R_below (bRr HO298) hb)
 replace BK308 := bA (bB BK308 hb)
 replace BK318 := bA (bB BK318 hb)
 replace HB := bA (bS hb)
 (try clear hb)
 refine hK.out _ _ ⟨bq BK308 0, bq BK308 1, bq BK308 2, bq BK308 3⟩ (fun hHeld => ?_)
 clear hK K
 refine bH ?_
 refine one_ (i := 70) (N := some 91) #[true,true,true,true,true,true,true,true,true,true,true,true,true,true,true,true,true,true,true,true,true,true,true,true,true,true,true,true,true,true,true,true,true,true,true,true,true,true,true,true,true,true,true,true,true,true,true,true,true,true,true,true,true,true,true,true,true,true,true,true,true,true,true,true,true,true,true,true,true,true,true,false,false,false,false,false,false,false,false,false,false,false,false,false,false,false] rfl rfl (one_of HT_.out (by kernel_rfl)) (by decide) (fun K hK => ?_)
 refine goes_ Try.func47 (by kernel_rfl) rfl #[.agg #[.int .i64 t395, .int .i64 t396, .int .i64 t397, .int .i64 t398], .slice Ao88 y296.length co88] (by rfl) rfl rfl (by (try simp only [List.map_toArray, List.map_cons, List.map_nil]); first | done | rfl | (simp only [List.length_drop, List.length_take]; rfl)) ?_
 with_reducible refine (box_Relate.calls k t395 t396 t397 t398 _ _ y296 t399 _ ?side1 ?side2 A44.out).mono ?_
 (case side1 => repeat (first | exact (Kd.R_reads' HO298.out).2.2 | (with_reducible refine Kd.C_alloc ?_ _) | (with_reducible refine Kd.C_drewN ?_ _) | (with_reducible refine Kd.C_drew ?_)))
 (case side2 => exact (Kd.R_reads' HO298.out).2.1)
 rintro e w91 ⟨rfl, hb⟩
 refine ⟨_, rfl, ?_⟩
 replace HO298 := bA (Kd.R_below (bRr HO298) hb)
 replace BK308 := bA (bB BK308 hb)
 replace BK318 := bA (bB BK318 hb)
 replace HB := bA (bS hb)
 (try clear hb)
 refine hK.out _ _ ⟨bq BK308 0, bq BK308 1, bq BK308 2, bq BK308 3⟩ (fun hHeld => ?_)
 clear hK K
 refine bH ?_
 refine bU (i := 71) (N := some 92) ?_
 refine bU (i := 72) (N := some 93) ?_
 refine bU (i := 73) (N := some 94) ?_
 refine bU (i := 75) (N := some 96) ?_
 refine one_ (i := 74) (N := some 95) #[true,true,true,true,true,true,true,true,true,true,true,true,true,true,true,true,true,true,true,true,true,true,true,true,true,true,true,true,true,true,true,true,true,true,true,true,true,true,true,true,true,true,true,true,true,true,true,true,true,true,true,true,true,true,true,true,true,true,true,true,true,true,true,true,true,true,true,true,true,true,true,true,true,true,true,true,false,false,false,false,false,false,false,false,false,false] rfl rfl (one_of HT_.out (by kernel_rfl)) (by decide) (fun K hK => ?_)
 refine goes_ Try.func92 (by kernel_rfl) rfl #[.int .i64 6, .int .i64 6, .int .i64 7, .int .i64 7] (by rfl) rfl rfl (by (try simp only [List.map_toArray, List.map_cons, List.map_nil]); first | done | rfl | (simp only [List.length_drop, List.length_take]; rfl)) ?_
 with_reducible refine (apogeelaw12_of.calls 6 6 7 7 t400 t401 t402 t403 _ A46.out).mono ?_
 rintro e w92 ⟨rfl, hb⟩
 refine ⟨_, rfl, ?_⟩
 replace HO298 := bA (Kd.R_below (bRr HO298) hb)
 replace BK308 := bA (bB BK308 hb)
 replace BK318 := bA (bB BK318 hb)
 replace HB := bA (bS hb)
 (try clear hb)
 refine hK.out _ _ ⟨bq BK308 0, bq BK308 1, bq BK308 2, bq BK308 3⟩ (fun hHeld => ?_)
 clear hK K
 refine bH ?_
 refine one_ (i := 76) (N := some 97) #[true,true,true,true,true,true,true,true,true,true,true,true,true,true,true,true,true,true,true,true,true,true,true,true,true,true,true,true,true,true,true,true,true,true,true,true,true,true,true,true,true,true,true,true,true,true,true,true,true,true,true,true,true,true,true,true,true,true,true,true,true,true,true,true,true,true,true,true,true,true,true,true,true,true,true,true,true,false,false,false,false,false,false,false,false,false] rfl rfl (one_of HT_.out (by kernel_rfl)) (by decide) (fun K hK => ?_)
 refine goes_ Try.func47 (by kernel_rfl) rfl #[.agg #[.int .i64 t400, .int .i64 t401, .int .i64 t402, .int .i64 t403], .slice Ao88 y296.length co88] (by rfl) rfl rfl (by (try simp only [List.map_toArray, List.map_cons, List.map_nil]); first | done | rfl | (simp only [List.length_drop, List.length_take]; rfl)) ?_
 with_reducible refine (box_Relate.calls k t400 t401 t402 t403 _ _ y296 t404 _ ?side1 ?side2 A47.out).mono ?_
 (case side1 => repeat (first | exact (Kd.R_reads' HO298.out).2.2 | (with_reducible refine Kd.C_alloc ?_ _) | (with_reducible refine Kd.C_drewN ?_ _) | (with_reducible refine Kd.C_drew ?_)))
 (case side2 => exact (Kd.R_reads' HO298.out).2.1)
 rintro e w93 ⟨rfl, hb⟩
 refine ⟨_, rfl, ?_⟩
 replace HO298 := bA (Kd.R_below (bRr HO298) hb)
 replace BK308 := bA (bB BK308 hb)
 replace BK318 := bA (bB BK318 hb)
 replace HB := bA (bS hb)
 (try clear hb)
 refine hK.out _ _ ⟨bq BK308 0, bq BK308 1, bq BK308 2, bq BK308 3⟩ (fun hHeld => ?_)
 clear hK K
 refine bH ?_
 refine bU (i := 77) (N := some 98) ?_
 refine bU (i := 78) (N := some 99) ?_
 refine bU (i := 79) (N := some 100) ?_
 refine one_ (i := 80) (N := some 101) #[true,true,true,true,true,true,true,true,true,true,true,true,true,true,true,true,true,true,true,true,true,true,true,true,true,true,true,true,true,true,true,true,true,true,true,true,true,true,true,true,true,true,true,true,true,true,true,true,true,true,true,true,true,true,true,true,true,true,true,true,true,true,true,true,true,true,true,true,true,true,true,true,true,true,true,true,true,true,true,true,true,false,false,false,false,false] rfl rfl (one_of HT_.out (by kernel_rfl)) (by decide) (fun K hK => ?_)
 refine goes_ Try.func92 (by kernel_rfl) rfl #[.int .i64 1, .int .i64 1, .int .i64 2, .int .i64 2] (by rfl) rfl rfl (by (try simp only [List.map_toArray, List.map_cons, List.map_nil]); first | done | rfl | (simp only [List.length_drop, List.length_take]; rfl)) ?_
 with_reducible refine (apogeelaw12_of.calls 1 1 2 2 t405 t406 t407 t408 _ A49.out).mono ?_
 rintro e w94 ⟨rfl, hb⟩
 refine ⟨_, rfl, ?_⟩
 replace HO298 := bA (Kd.R_below (bRr HO298) hb)
 replace BK308 := bA (bB BK308 hb)
 replace BK318 := bA (bB BK318 hb)
 replace HB := bA (bS hb)
 (try clear hb)
 refine hK.out _ _ ⟨bq BK308 0, bq BK308 1, bq BK308 2, bq BK308 3⟩ (fun hHeld => ?_)
 clear hK K
 refine bH ?_
 refine one_ (i := 81) (N := some 102) #[true,true,true,true,true,true,true,true,true,true,true,true,true,true,true,true,true,true,true,true,true,true,true,true,true,true,true,true,true,true,true,true,true,true,true,true,true,true,true,true,true,true,true,true,true,true,true,true,true,true,true,true,true,true,true,true,true,true,true,true,true,true,true,true,true,true,true,true,true,true,true,true,true,true,true,true,true,true,true,true,true,true,false,false,false,false] rfl rfl (one_of HT_.out (by kernel_rfl)) (by decide) (fun K hK => ?_)
 refine goes_ Try.func89 (by kernel_rfl) rfl #[.agg #[.int .i64 t405, .int .i64 t406, .int .i64 t407, .int .i64 t408]] (by rfl) rfl rfl (by (try simp only [List.map_toArray, List.map_cons, List.map_nil]); first | done | rfl | (simp only [List.length_drop, List.length_take]; rfl)) ?_
 with_reducible refine (box_Corners.calls t405 t406 t407 t408 t409 _ A50.out).mono ?_
 rintro e w95 ⟨v410, rfl, ho0, hb⟩
 refine ⟨_, rfl, ?_⟩
 have HO411 := bA (Kd.R_lower (Kd.R_new' ho0 (Kd.R_lt (bRr HO298))) bY)
 replace HO298 := bA (Kd.R_elder' (bRr HO298) (Kd.R_base ho0) hb)
 replace BK308 := bA (bB BK308 hb)
 replace BK318 := bA (bB BK318 hb)
 replace HB := bA (bS hb)
 (try clear hb)
 (try clear ho0)
 obtain ⟨Ao96, co96, eo96⟩ := Kd.R_slice HO411.out
 (first | subst eo96 | (injection eo96 with f1_ f2_ f3_; have f4_ := f1_.symm; have f5_ := f3_.symm; clear f1_ f2_ f3_; subst f4_; subst f5_))
 refine hK.out _ _ ⟨bq BK308 0, bq BK308 1, bq BK308 2, bq BK308 3⟩ (fun hHeld => ?_)
 clear hK K
 refine bH ?_
 refine bU (i := 82) (N := some 103) ?_
 refine bU (i := 83) (N := some 104) ?_
 refine bU (i := 84) (N := some 105) ?_
 refine bU (i := 85) (N := some 0) ?_
 refine done_ (done_of HT_.out (by kernel_rfl)) ?_
 try go_wp2
 go_ret
 exact bF
end Go.Proofs.Ytjmibjmlihmglaa.G
