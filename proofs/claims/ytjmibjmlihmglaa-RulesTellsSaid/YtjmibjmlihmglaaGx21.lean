-- Written by a program of this session out of the translation; Lean checks it.
import Derived.Test.YtjmibjmlihmglaaGx0
import Derived.Test.YtjmibjmlihmglaaGx3
import Derived.Test.YtjmibjmlihmglaaGx8
import Derived.Test.YtjmibjmlihmglaaGx9
import Derived.Test.YtjmibjmlihmglaaGx10
import Derived.Test.YtjmibjmlihmglaaGx11
import Derived.Test.YtjmibjmlihmglaaGx12
import Derived.Test.YtjmibjmlihmglaaGx18
import Derived.Test.YtjmibjmlihmglaaGx19
import Derived.Test.YtjmibjmlihmglaaGx20
namespace Go.Proofs.Ytjmibjmlihmglaa.G
open Go.RowKit Go.Proofs.YtjmibjmlihmglaaW.PrintWords Go.Proofs.YtjmibjmlihmglaaW.PrintLast Go.Proofs.YtjmibjmlihmglaaW.PrintMore
attribute [local go_sem] max2_int min2_int max_two min_two max_three min_three max_four min_four   -- for this text's walks alone
set_option linter.unusedVariables false
set_option linter.unusedSimpArgs false

/-! ### apogeelaw13_RulesTells: function 3 -/
mutual
def apogeelaw13_RulesTells.j0 : Nat → Int → Bool → List (S30) → Int → Int → Int → Int → Int → Int → Int → Int → Option (Bool)
 | 0, _, _, _, _, _, _, _, _, _, _, _ => none
 | k + 1, x1, x16, x489000, x489001, x489002, x489003, x489004, x489005, x489006, x489007, x489008 => if x16 = true then ((apogeelaw13_awake.f k).bind fun t491 => (some t491)) else ((apogeeref13_Wrong.f k x489000 x489001 x489002 x489003 x489004 x489005 x489006 x489007 x489008).bind fun t492 => ((rules_Phase.f x489000 x489001 x489002 x489003 x489004 x489005 x489006 x489007 x489008 x1).bind fun bt493 => (if x1 ≥ 0 then (apogeelaw13_RulesTells.j1 k x1 t492 bt493.2.2.2.2.2 (decide (x1 < (x489000.length : Int))) x489000 x489001 x489002 x489003 x489004 x489005 x489006 x489007 x489008 bt493.1 bt493.2.1 bt493.2.2.1 bt493.2.2.2.1 bt493.2.2.2.2.1) else (apogeelaw13_RulesTells.j1 k x1 t492 bt493.2.2.2.2.2 false x489000 x489001 x489002 x489003 x489004 x489005 x489006 x489007 x489008 bt493.1 bt493.2.1 bt493.2.2.1 bt493.2.2.2.1 bt493.2.2.2.2.1))))
def apogeelaw13_RulesTells.j1 : Nat → Int → Int → Bool → Bool → List (S30) → Int → Int → Int → Int → Int → Int → Int → Int → List (S41) → Int → Int → Int → Int → Option (Bool)
 | 0, _, _, _, _, _, _, _, _, _, _, _, _, _, _, _, _, _, _ => none
 | k + 1, x1, x5, x7, x8, x489000, x489001, x489002, x489003, x489004, x489005, x489006, x489007, x489008, x502000, x502001, x502002, x502003, x502004 => if x5 = 0 then (apogeelaw13_RulesTells.j2 k x1 x5 x7 x8 (wrap64 ((wrap64 (x489001 + x489002)) + 2)) x489000 x489001 x489002 x489003 x489004 x489005 x489006 x489007 x489008 x502000 x502001 x502002 x502003 x502004) else (apogeelaw13_RulesTells.j2 k x1 x5 x7 x8 0 x489000 x489001 x489002 x489003 x489004 x489005 x489006 x489007 x489008 x502000 x502001 x502002 x502003 x502004)
def apogeelaw13_RulesTells.j2 : Nat → Int → Int → Bool → Bool → Int → List (S30) → Int → Int → Int → Int → Int → Int → Int → Int → List (S41) → Int → Int → Int → Int → Option (Bool)
 | 0, _, _, _, _, _, _, _, _, _, _, _, _, _, _, _, _, _, _, _ => none
 | k + 1, x1, x5, x7, x8, x9, x489000, x489001, x489002, x489003, x489004, x489005, x489006, x489007, x489008, x502000, x502001, x502002, x502003, x502004 => (rules_Wrong.f k x489000 x489001 x489002 x489003 x489004 x489005 x489006 x489007 x489008).bind fun t502 => (if t502 = x5 then ((rules_Right.f k x489000 x489001 x489002 x489003 x489004 x489005 x489006 x489007 x489008).bind fun t503 => (if (t503 != (x5 == 0)) = true then (apogeelaw13_RulesTells.j3 k x1 x8 true x489000 x489001 x489002 x489003 x489004 x489005 x489006 x489007 x489008 x502000 x502001 x502002 x502003 x502004) else (if (x7 != x8) = true then (apogeelaw13_RulesTells.j3 k x1 x8 true x489000 x489001 x489002 x489003 x489004 x489005 x489006 x489007 x489008 x502000 x502001 x502002 x502003 x502004) else ((rules_Window.f k x489000 x489001 x489002 x489003 x489004 x489005 x489006 x489007 x489008).bind fun t504 => (apogeelaw13_RulesTells.j3 k x1 x8 (t504 != x9) x489000 x489001 x489002 x489003 x489004 x489005 x489006 x489007 x489008 x502000 x502001 x502002 x502003 x502004))))) else (apogeelaw13_RulesTells.j3 k x1 x8 true x489000 x489001 x489002 x489003 x489004 x489005 x489006 x489007 x489008 x502000 x502001 x502002 x502003 x502004))
def apogeelaw13_RulesTells.j3 : Nat → Int → Bool → Bool → List (S30) → Int → Int → Int → Int → Int → Int → Int → Int → List (S41) → Int → Int → Int → Int → Option (Bool)
 | 0, _, _, _, _, _, _, _, _, _, _, _, _, _, _, _, _, _ => none
 | k + 1, x1, x8, x64, x489000, x489001, x489002, x489003, x489004, x489005, x489006, x489007, x489008, x502000, x502001, x502002, x502003, x502004 => if x64 = true then (none) else (if x8 = true then (if 0 ≤ x1 then (if x1 < (x489000.length : Int) then ((apogeeref13_SamePhase.f k x502000 x502001 x502002 x502003 x502004 ((rd_T30 x489000 x1).f0) ((rd_T30 x489000 x1).f1) ((rd_T30 x489000 x1).f2) ((rd_T30 x489000 x1).f3) ((rd_T30 x489000 x1).f4)).bind fun t506 => (if t506 = true then ((rules_RightPhase.f k x502000 x502001 x502002 x502003 x502004).bind fun t507 => ((apogeeref13_RightPhase.f k x502000 x502001 x502002 x502003 x502004).bind fun t508 => (some (t507 == t508)))) else (none))) else (none)) else (none)) else ((apogeeref13_SamePhase.f k x502000 x502001 x502002 x502003 x502004 ([] : List (S41)) 0 0 0 0).bind fun t509 => (some t509)))
end
def apogeelaw13_RulesTells.f (k : Nat) (l0_0 : List (S30)) (a0_1 : Int) (a0_2 : Int) (a0_3 : Int) (a0_4 : Int) (a0_5 : Int) (a0_6 : Int) (a0_7 : Int) (a0_8 : Int) (a1 : Int) : Option (Bool) := (apogeelaw13_awake.f k).bind fun t489 => (if t489 = true then ((apogeeref13_Few.f k l0_0 a0_1 a0_2 a0_3 a0_4 a0_5 a0_6 a0_7 a0_8).bind fun t490 => (apogeelaw13_RulesTells.j0 k a1 (!t490) l0_0 a0_1 a0_2 a0_3 a0_4 a0_5 a0_6 a0_7 a0_8)) else (apogeelaw13_RulesTells.j0 k a1 true l0_0 a0_1 a0_2 a0_3 a0_4 a0_5 a0_6 a0_7 a0_8))
theorem apogeelaw13_RulesTells.mono_l : ∀ k, (∀ y0 y1 y2 y3 y4 y5 y6 y7 y8 y9 y10, LeO (apogeelaw13_RulesTells.j0 k y0 y1 y2 y3 y4 y5 y6 y7 y8 y9 y10) (apogeelaw13_RulesTells.j0 (k + 1) y0 y1 y2 y3 y4 y5 y6 y7 y8 y9 y10)) ∧ (∀ y0 y1 y2 y3 y4 y5 y6 y7 y8 y9 y10 y11 y12 y13 y14 y15 y16 y17, LeO (apogeelaw13_RulesTells.j1 k y0 y1 y2 y3 y4 y5 y6 y7 y8 y9 y10 y11 y12 y13 y14 y15 y16 y17) (apogeelaw13_RulesTells.j1 (k + 1) y0 y1 y2 y3 y4 y5 y6 y7 y8 y9 y10 y11 y12 y13 y14 y15 y16 y17)) ∧ (∀ y0 y1 y2 y3 y4 y5 y6 y7 y8 y9 y10 y11 y12 y13 y14 y15 y16 y17 y18, LeO (apogeelaw13_RulesTells.j2 k y0 y1 y2 y3 y4 y5 y6 y7 y8 y9 y10 y11 y12 y13 y14 y15 y16 y17 y18) (apogeelaw13_RulesTells.j2 (k + 1) y0 y1 y2 y3 y4 y5 y6 y7 y8 y9 y10 y11 y12 y13 y14 y15 y16 y17 y18)) ∧ (∀ y0 y1 y2 y3 y4 y5 y6 y7 y8 y9 y10 y11 y12 y13 y14 y15 y16, LeO (apogeelaw13_RulesTells.j3 k y0 y1 y2 y3 y4 y5 y6 y7 y8 y9 y10 y11 y12 y13 y14 y15 y16) (apogeelaw13_RulesTells.j3 (k + 1) y0 y1 y2 y3 y4 y5 y6 y7 y8 y9 y10 y11 y12 y13 y14 y15 y16))
 | 0 => ⟨fun _ _ _ _ _ _ _ _ _ _ _ r h => by simp [apogeelaw13_RulesTells.j0] at h, fun _ _ _ _ _ _ _ _ _ _ _ _ _ _ _ _ _ _ r h => by simp [apogeelaw13_RulesTells.j1] at h, fun _ _ _ _ _ _ _ _ _ _ _ _ _ _ _ _ _ _ _ r h => by simp [apogeelaw13_RulesTells.j2] at h, fun _ _ _ _ _ _ _ _ _ _ _ _ _ _ _ _ _ r h => by simp [apogeelaw13_RulesTells.j3] at h⟩
 | k + 1 => by
  obtain ⟨ih0, ih1, ih2, ih3⟩ := apogeelaw13_RulesTells.mono_l k
  refine ⟨?_, ?_, ?_, ?_⟩
  ·intro y0 y1 y2 y3 y4 y5 y6 y7 y8 y9 y10
   unfold apogeelaw13_RulesTells.j0
   repeat' first
   | (with_reducible exact ih0 _ _ _ _ _ _ _ _ _ _ _)
   | (with_reducible exact ih1 _ _ _ _ _ _ _ _ _ _ _ _ _ _ _ _ _ _)
   | (with_reducible exact ih2 _ _ _ _ _ _ _ _ _ _ _ _ _ _ _ _ _ _ _)
   | (with_reducible exact ih3 _ _ _ _ _ _ _ _ _ _ _ _ _ _ _ _ _)
   | (with_reducible exact apogeelaw13_awake.mono _)
   | (with_reducible exact apogeeref13_Few.mono _ _ _ _ _ _ _ _ _ _)
   | (with_reducible exact apogeeref13_RightPhase.mono _ _ _ _ _ _)
   | (with_reducible exact apogeeref13_SamePhase.mono _ _ _ _ _ _ _ _ _ _ _)
   | (with_reducible exact apogeeref13_Wrong.mono _ _ _ _ _ _ _ _ _ _)
   | (with_reducible exact rules_Right.mono _ _ _ _ _ _ _ _ _ _)
   | (with_reducible exact rules_RightPhase.mono _ _ _ _ _ _)
   | (with_reducible exact rules_Window.mono _ _ _ _ _ _ _ _ _ _)
   | (with_reducible exact rules_Wrong.mono _ _ _ _ _ _ _ _ _ _)
   | (with_reducible exact LeO.refl _)
   | (with_reducible exact LeO.none _)
   | (with_reducible refine LeO.ite ?_ ?_)
   | (with_reducible refine LeO.bind ?_ (fun _ => ?_))
   | exact ih0 _ _ _ _ _ _ _ _ _ _ _
   | exact ih1 _ _ _ _ _ _ _ _ _ _ _ _ _ _ _ _ _ _
   | exact ih2 _ _ _ _ _ _ _ _ _ _ _ _ _ _ _ _ _ _ _
   | exact ih3 _ _ _ _ _ _ _ _ _ _ _ _ _ _ _ _ _
   | exact apogeelaw13_awake.mono _
   | exact apogeeref13_Few.mono _ _ _ _ _ _ _ _ _ _
   | exact apogeeref13_RightPhase.mono _ _ _ _ _ _
   | exact apogeeref13_SamePhase.mono _ _ _ _ _ _ _ _ _ _ _
   | exact apogeeref13_Wrong.mono _ _ _ _ _ _ _ _ _ _
   | exact rules_Right.mono _ _ _ _ _ _ _ _ _ _
   | exact rules_RightPhase.mono _ _ _ _ _ _
   | exact rules_Window.mono _ _ _ _ _ _ _ _ _ _
   | exact rules_Wrong.mono _ _ _ _ _ _ _ _ _ _
   | exact LeO.none _
   | refine LeO.ite ?_ ?_
   | refine LeO.bind ?_ (fun _ => ?_)
  ·intro y0 y1 y2 y3 y4 y5 y6 y7 y8 y9 y10 y11 y12 y13 y14 y15 y16 y17
   unfold apogeelaw13_RulesTells.j1
   repeat' first
   | (with_reducible exact ih0 _ _ _ _ _ _ _ _ _ _ _)
   | (with_reducible exact ih1 _ _ _ _ _ _ _ _ _ _ _ _ _ _ _ _ _ _)
   | (with_reducible exact ih2 _ _ _ _ _ _ _ _ _ _ _ _ _ _ _ _ _ _ _)
   | (with_reducible exact ih3 _ _ _ _ _ _ _ _ _ _ _ _ _ _ _ _ _)
   | (with_reducible exact apogeelaw13_awake.mono _)
   | (with_reducible exact apogeeref13_Few.mono _ _ _ _ _ _ _ _ _ _)
   | (with_reducible exact apogeeref13_RightPhase.mono _ _ _ _ _ _)
   | (with_reducible exact apogeeref13_SamePhase.mono _ _ _ _ _ _ _ _ _ _ _)
   | (with_reducible exact apogeeref13_Wrong.mono _ _ _ _ _ _ _ _ _ _)
   | (with_reducible exact rules_Right.mono _ _ _ _ _ _ _ _ _ _)
   | (with_reducible exact rules_RightPhase.mono _ _ _ _ _ _)
   | (with_reducible exact rules_Window.mono _ _ _ _ _ _ _ _ _ _)
   | (with_reducible exact rules_Wrong.mono _ _ _ _ _ _ _ _ _ _)
   | (with_reducible exact LeO.refl _)
   | (with_reducible exact LeO.none _)
   | (with_reducible refine LeO.ite ?_ ?_)
   | (with_reducible refine LeO.bind ?_ (fun _ => ?_))
   | exact ih0 _ _ _ _ _ _ _ _ _ _ _
   | exact ih1 _ _ _ _ _ _ _ _ _ _ _ _ _ _ _ _ _ _
   | exact ih2 _ _ _ _ _ _ _ _ _ _ _ _ _ _ _ _ _ _ _
   | exact ih3 _ _ _ _ _ _ _ _ _ _ _ _ _ _ _ _ _
   | exact apogeelaw13_awake.mono _
   | exact apogeeref13_Few.mono _ _ _ _ _ _ _ _ _ _
   | exact apogeeref13_RightPhase.mono _ _ _ _ _ _
   | exact apogeeref13_SamePhase.mono _ _ _ _ _ _ _ _ _ _ _
   | exact apogeeref13_Wrong.mono _ _ _ _ _ _ _ _ _ _
   | exact rules_Right.mono _ _ _ _ _ _ _ _ _ _
   | exact rules_RightPhase.mono _ _ _ _ _ _
   | exact rules_Window.mono _ _ _ _ _ _ _ _ _ _
   | exact rules_Wrong.mono _ _ _ _ _ _ _ _ _ _
   | exact LeO.none _
   | refine LeO.ite ?_ ?_
   | refine LeO.bind ?_ (fun _ => ?_)
  ·intro y0 y1 y2 y3 y4 y5 y6 y7 y8 y9 y10 y11 y12 y13 y14 y15 y16 y17 y18
   unfold apogeelaw13_RulesTells.j2
   repeat' first
   | (with_reducible exact ih0 _ _ _ _ _ _ _ _ _ _ _)
   | (with_reducible exact ih1 _ _ _ _ _ _ _ _ _ _ _ _ _ _ _ _ _ _)
   | (with_reducible exact ih2 _ _ _ _ _ _ _ _ _ _ _ _ _ _ _ _ _ _ _)
   | (with_reducible exact ih3 _ _ _ _ _ _ _ _ _ _ _ _ _ _ _ _ _)
   | (with_reducible exact apogeelaw13_awake.mono _)
   | (with_reducible exact apogeeref13_Few.mono _ _ _ _ _ _ _ _ _ _)
   | (with_reducible exact apogeeref13_RightPhase.mono _ _ _ _ _ _)
   | (with_reducible exact apogeeref13_SamePhase.mono _ _ _ _ _ _ _ _ _ _ _)
   | (with_reducible exact apogeeref13_Wrong.mono _ _ _ _ _ _ _ _ _ _)
   | (with_reducible exact rules_Right.mono _ _ _ _ _ _ _ _ _ _)
   | (with_reducible exact rules_RightPhase.mono _ _ _ _ _ _)
   | (with_reducible exact rules_Window.mono _ _ _ _ _ _ _ _ _ _)
   | (with_reducible exact rules_Wrong.mono _ _ _ _ _ _ _ _ _ _)
   | (with_reducible exact LeO.refl _)
   | (with_reducible exact LeO.none _)
   | (with_reducible refine LeO.ite ?_ ?_)
   | (with_reducible refine LeO.bind ?_ (fun _ => ?_))
   | exact ih0 _ _ _ _ _ _ _ _ _ _ _
   | exact ih1 _ _ _ _ _ _ _ _ _ _ _ _ _ _ _ _ _ _
   | exact ih2 _ _ _ _ _ _ _ _ _ _ _ _ _ _ _ _ _ _ _
   | exact ih3 _ _ _ _ _ _ _ _ _ _ _ _ _ _ _ _ _
   | exact apogeelaw13_awake.mono _
   | exact apogeeref13_Few.mono _ _ _ _ _ _ _ _ _ _
   | exact apogeeref13_RightPhase.mono _ _ _ _ _ _
   | exact apogeeref13_SamePhase.mono _ _ _ _ _ _ _ _ _ _ _
   | exact apogeeref13_Wrong.mono _ _ _ _ _ _ _ _ _ _
   | exact rules_Right.mono _ _ _ _ _ _ _ _ _ _
   | exact rules_RightPhase.mono _ _ _ _ _ _
   | exact rules_Window.mono _ _ _ _ _ _ _ _ _ _
   | exact rules_Wrong.mono _ _ _ _ _ _ _ _ _ _
   | exact LeO.none _
   | refine LeO.ite ?_ ?_
   | refine LeO.bind ?_ (fun _ => ?_)
  ·intro y0 y1 y2 y3 y4 y5 y6 y7 y8 y9 y10 y11 y12 y13 y14 y15 y16
   unfold apogeelaw13_RulesTells.j3
   repeat' first
   | (with_reducible exact ih0 _ _ _ _ _ _ _ _ _ _ _)
   | (with_reducible exact ih1 _ _ _ _ _ _ _ _ _ _ _ _ _ _ _ _ _ _)
   | (with_reducible exact ih2 _ _ _ _ _ _ _ _ _ _ _ _ _ _ _ _ _ _ _)
   | (with_reducible exact ih3 _ _ _ _ _ _ _ _ _ _ _ _ _ _ _ _ _)
   | (with_reducible exact apogeelaw13_awake.mono _)
   | (with_reducible exact apogeeref13_Few.mono _ _ _ _ _ _ _ _ _ _)
   | (with_reducible exact apogeeref13_RightPhase.mono _ _ _ _ _ _)
   | (with_reducible exact apogeeref13_SamePhase.mono _ _ _ _ _ _ _ _ _ _ _)
   | (with_reducible exact apogeeref13_Wrong.mono _ _ _ _ _ _ _ _ _ _)
   | (with_reducible exact rules_Right.mono _ _ _ _ _ _ _ _ _ _)
   | (with_reducible exact rules_RightPhase.mono _ _ _ _ _ _)
   | (with_reducible exact rules_Window.mono _ _ _ _ _ _ _ _ _ _)
   | (with_reducible exact rules_Wrong.mono _ _ _ _ _ _ _ _ _ _)
   | (with_reducible exact LeO.refl _)
   | (with_reducible exact LeO.none _)
   | (with_reducible refine LeO.ite ?_ ?_)
   | (with_reducible refine LeO.bind ?_ (fun _ => ?_))
   | exact ih0 _ _ _ _ _ _ _ _ _ _ _
   | exact ih1 _ _ _ _ _ _ _ _ _ _ _ _ _ _ _ _ _ _
   | exact ih2 _ _ _ _ _ _ _ _ _ _ _ _ _ _ _ _ _ _ _
   | exact ih3 _ _ _ _ _ _ _ _ _ _ _ _ _ _ _ _ _
   | exact apogeelaw13_awake.mono _
   | exact apogeeref13_Few.mono _ _ _ _ _ _ _ _ _ _
   | exact apogeeref13_RightPhase.mono _ _ _ _ _ _
   | exact apogeeref13_SamePhase.mono _ _ _ _ _ _ _ _ _ _ _
   | exact apogeeref13_Wrong.mono _ _ _ _ _ _ _ _ _ _
   | exact rules_Right.mono _ _ _ _ _ _ _ _ _ _
   | exact rules_RightPhase.mono _ _ _ _ _ _
   | exact rules_Window.mono _ _ _ _ _ _ _ _ _ _
   | exact rules_Wrong.mono _ _ _ _ _ _ _ _ _ _
   | exact LeO.none _
   | refine LeO.ite ?_ ?_
   | refine LeO.bind ?_ (fun _ => ?_)
theorem apogeelaw13_RulesTells.mono : ∀ a0 a1 a2 a3 a4 a5 a6 a7 a8 a9 k, LeO (apogeelaw13_RulesTells.f k a0 a1 a2 a3 a4 a5 a6 a7 a8 a9) (apogeelaw13_RulesTells.f (k + 1) a0 a1 a2 a3 a4 a5 a6 a7 a8 a9) := by
 intro a0 a1 a2 a3 a4 a5 a6 a7 a8 a9 k
 obtain ⟨ih0, ih1, ih2, ih3⟩ := apogeelaw13_RulesTells.mono_l k
 unfold apogeelaw13_RulesTells.f
 repeat' first
   | (with_reducible exact ih0 _ _ _ _ _ _ _ _ _ _ _)
   | (with_reducible exact ih1 _ _ _ _ _ _ _ _ _ _ _ _ _ _ _ _ _ _)
   | (with_reducible exact ih2 _ _ _ _ _ _ _ _ _ _ _ _ _ _ _ _ _ _ _)
   | (with_reducible exact ih3 _ _ _ _ _ _ _ _ _ _ _ _ _ _ _ _ _)
   | (with_reducible exact apogeelaw13_awake.mono _)
   | (with_reducible exact apogeeref13_Few.mono _ _ _ _ _ _ _ _ _ _)
   | (with_reducible exact apogeeref13_RightPhase.mono _ _ _ _ _ _)
   | (with_reducible exact apogeeref13_SamePhase.mono _ _ _ _ _ _ _ _ _ _ _)
   | (with_reducible exact apogeeref13_Wrong.mono _ _ _ _ _ _ _ _ _ _)
   | (with_reducible exact rules_Right.mono _ _ _ _ _ _ _ _ _ _)
   | (with_reducible exact rules_RightPhase.mono _ _ _ _ _ _)
   | (with_reducible exact rules_Window.mono _ _ _ _ _ _ _ _ _ _)
   | (with_reducible exact rules_Wrong.mono _ _ _ _ _ _ _ _ _ _)
   | (with_reducible exact LeO.refl _)
   | (with_reducible exact LeO.none _)
   | (with_reducible refine LeO.ite ?_ ?_)
   | (with_reducible refine LeO.bind ?_ (fun _ => ?_))
   | exact ih0 _ _ _ _ _ _ _ _ _ _ _
   | exact ih1 _ _ _ _ _ _ _ _ _ _ _ _ _ _ _ _ _ _
   | exact ih2 _ _ _ _ _ _ _ _ _ _ _ _ _ _ _ _ _ _ _
   | exact ih3 _ _ _ _ _ _ _ _ _ _ _ _ _ _ _ _ _
   | exact apogeelaw13_awake.mono _
   | exact apogeeref13_Few.mono _ _ _ _ _ _ _ _ _ _
   | exact apogeeref13_RightPhase.mono _ _ _ _ _ _
   | exact apogeeref13_SamePhase.mono _ _ _ _ _ _ _ _ _ _ _
   | exact apogeeref13_Wrong.mono _ _ _ _ _ _ _ _ _ _
   | exact rules_Right.mono _ _ _ _ _ _ _ _ _ _
   | exact rules_RightPhase.mono _ _ _ _ _ _
   | exact rules_Window.mono _ _ _ _ _ _ _ _ _ _
   | exact rules_Wrong.mono _ _ _ _ _ _ _ _ _ _
   | exact LeO.none _
   | refine LeO.ite ?_ ?_
   | refine LeO.bind ?_ (fun _ => ?_)
def apogeelaw13_RulesTells.T13 : Bool × List (List Nat × List Nat) := (true, [([], []), ([], []), ([1], [1]), ([], []), ([2, 3], [2, 3]), ([4], [4]), ([0, 5], [0, 5]), ([6, 6], [6]), ([7], [7]), ([8, 7, 7], [7, 8]), ([7], [7]), ([10, 9, 7], [7, 10]), ([9, 11, 7], [7, 9, 11]), ([7, 12], [7, 12]), ([13, 11, 0, 1, 2, 3, 4, 5, 6, 7, 8, 9, 10, 11, 12, 13], [13])])
def apogeelaw13_RulesTells.B13 : List Nat := [0, 0, 2, 0, 14, 30, 63, 127, 255, 511, 255, 2047, 4095, 8191, 16383]
theorem apogeelaw13_RulesTells.tab13 : rtab .any (opsOf Try.f3 13) = apogeelaw13_RulesTells.T13 := by kernel_rfl
theorem apogeelaw13_RulesTells.bits13 : waitsOk apogeelaw13_RulesTells.T13.2 apogeelaw13_RulesTells.B13 = true := by kernel_rfl
set_option maxHeartbeats 8000000 in
set_option maxRecDepth 100000 in
theorem apogeelaw13_RulesTells.calls (k : Nat) (A0_0 : Option Addr) (c0_0 : Nat) (l0_0 : List (S30)) (a0_1 : Int) (a0_2 : Int) (a0_3 : Int) (a0_4 : Int) (a0_5 : Int) (a0_6 : Int) (a0_7 : Int) (a0_8 : Int) (a1 : Int) (r : Bool) (w : World) (hr0_0 : Kd.C k30 w A0_0 l0_0.length l0_0) (hc0_0 : l0_0.length ≤ c0_0) (h : apogeelaw13_RulesTells.f k l0_0 a0_1 a0_2 a0_3 a0_4 a0_5 a0_6 a0_7 a0_8 a1 = some r) :
  Calls Try.prog 3 #[.agg #[.slice A0_0 l0_0.length c0_0, .int .i64 a0_1, .int .i64 a0_2, .int .i64 a0_3, .int .i64 a0_4, .int .i64 a0_5, .int .i64 a0_6, .int .i64 a0_7, .int .i64 a0_8], .int .i64 a1] w fun e w' => e = .returned (.bool r) ∧ Below w.heap.size w w' := by
 have hu24 := Try.underlying24
 have hu30 := Try.underlying30
 have HR0_0 := bA hr0_0
 have HC0_0 := bA hc0_0
 clear hr0_0 hc0_0
 have HB := bA (Below.refl w.heap.size w)
 have H : ((apogeelaw13_awake.f k).bind fun t489 => (if t489 = true then ((apogeeref13_Few.f k l0_0 a0_1 a0_2 a0_3 a0_4 a0_5 a0_6 a0_7 a0_8).bind fun t490 => (apogeelaw13_RulesTells.j0 k a1 (!t490) l0_0 a0_1 a0_2 a0_3 a0_4 a0_5 a0_6 a0_7 a0_8)) else (apogeelaw13_RulesTells.j0 k a1 true l0_0 a0_1 a0_2 a0_3 a0_4 a0_5 a0_6 a0_7 a0_8))) = some r := h
 clear h
 have HC3 := bA H
 clear H
 go_enter Try.func3, Try.ntmps3
 go_upto_region 1 with (first | ((with_reducible refine gate_dst (N := 2) rfl ?_); (try (refine gate_guard (by rfl) ?_; dsimp only)); refine bE (N := 2) (cs := #[.slice A0_0 l0_0.length c0_0, .int .i64 a0_1, .int .i64 a0_2, .int .i64 a0_3, .int .i64 a0_4, .int .i64 a0_5, .int .i64 a0_6, .int .i64 a0_7, .int .i64 a0_8]) (t := 24) ?_; intro gb488 hg w4 hbox hb; have n0_ := bA (bS hb); have n1_ := bA (hbox); have n2_ := bA (bZ hg); have n3_ := bA (bZ hg); clear HB; have HB := n0_; have BK488 := n1_; have GW488 := n2_; have GE488 := n3_; clear n0_ n1_ n2_ n3_; clear hb hbox hg))
 (try simp only [Act.put, List.setIfInBounds_toArray, List.set_cons_zero, List.set_cons_succ])
 go_cut [16] (fun v16 wc => ∃ (kq : Nat) (x16_2 : Bool), v16 = .bool x16_2 ∧ Aside0 (apogeelaw13_RulesTells.j0 kq a1 x16_2 l0_0 a0_1 a0_2 a0_3 a0_4 a0_5 a0_6 a0_7 a0_8 = some r) ∧ Aside0 (kq ≤ k) ∧ Aside0 (wc.heap[gb488]? = some (.cells #[(.slice A0_0 l0_0.length c0_0), .int .i64 a0_1, .int .i64 a0_2, .int .i64 a0_3, .int .i64 a0_4, .int .i64 a0_5, .int .i64 a0_6, .int .i64 a0_7, .int .i64 a0_8] 24 (0, 0))) ∧ Aside0 (Below w.heap.size w wc))
 case first =>
  have H := HC3.out
  clear HC3
  replace H := Option.bind_eq_some_iff.mp H
  obtain ⟨t489, A50, H⟩ := H
  have A5 := bA A50
  clear A50
  by_cases c6 : t489 = true
  subst c6
  rw [if_pos rfl] at H
  replace H := Option.bind_eq_some_iff.mp H
  obtain ⟨t490, A70, H⟩ := H
  have A7 := bA A70
  clear A70
  have H' := bA H
  clear H
  rotate_left
  replace c6 := Bool.eq_false_iff.mpr c6
  subst c6
  rw [if_neg bn] at H
  have H' := bA H
  clear H
  rotate_left
  all_goals go_wp2_with (first | ((first | ((with_reducible refine gate_callee (f := 14) rfl ?_); refine bC (some 10) Try.func14 #[] ?_) | go_at_call 14); (with_reducible refine (apogeelaw13_awake.calls k  true _ A5.out).mono ?_); rintro e wz0 ⟨rfl, hb⟩; (first | refine ⟨_, rfl, ?_⟩ | skip); replace BK488 := bA (bB BK488 hb); replace HB := bA (bS hb); (try clear hb); obtain ⟨hz1, hz2, hz3, hz4, hz5, hz6, hz7, hz8, hz9, hz10, hz11, hz12, hz13, hz14, hz15, hz16, hz17, hz18⟩ := bc9 BK488) | (go_at_call 15; (with_reducible refine (apogeeref13_Few.calls k _ _ l0_0 a0_1 a0_2 a0_3 a0_4 a0_5 a0_6 a0_7 a0_8 t490 _ ?side1 ?side2 A7.out).mono ?_); (case side1 => exact bQ HR0_0); (case side2 => exact HC0_0.out); rintro e wz1 ⟨rfl, hb⟩; replace BK488 := bA (bB BK488 hb); replace HB := bA (bS hb); (try clear hb)) | ((first | ((with_reducible refine gate_callee (f := 14) rfl ?_); refine bC (some 10) Try.func14 #[] ?_) | go_at_call 14); (with_reducible refine (apogeelaw13_awake.calls k  false _ A5.out).mono ?_); rintro e wz0 ⟨rfl, hb⟩; (first | refine ⟨_, rfl, ?_⟩ | skip); replace BK488 := bA (bB BK488 hb); replace HB := bA (bS hb); (try clear hb)))
  ·go_meet
   case rel => exact ⟨_, (!t490), bs, H', ⟨by first | omega | exact Nat.le_refl _⟩, ⟨by (with_reducible repeat (first | refine blk_drewN ?_ _ | refine blk_drew ?_ | refine blk_alloc ?_ _)); exact BK488.out⟩, ⟨bX⟩⟩
  go_meet
  case rel => exact ⟨_, (true), bs, H', ⟨by first | omega | exact Nat.le_refl _⟩, ⟨by (with_reducible repeat (first | refine blk_drewN ?_ _ | refine blk_drew ?_ | refine blk_alloc ?_ _)); exact BK488.out⟩, ⟨bX⟩⟩
 clear HC3
 try clear c1
 try clear p2
 try clear c3
 try clear c6
 try clear hcz9_0
 try clear hcz9_1
 try clear hcz9_2
 try clear hcz9_3
 try clear hcz9_4
 try clear hcz9_5
 try clear hcz9_6
 try clear hcz9_7
 try clear hcz9_8
 try clear hfz9_0
 try clear hfz9_1
 try clear hfz9_2
 try clear hfz9_3
 try clear hfz9_4
 try clear hfz9_5
 try clear hfz9_6
 try clear hfz9_7
 try clear hfz9_8
 obtain ⟨kq, x16_2, rfl, HA, HJ2, BK488, HB⟩ := hcut
 cases kq with
 | zero => exact absurd HA.out (by simp [apogeelaw13_RulesTells.j0])
 | succ kj2 =>
  have H := HA.out
  clear HA
  simp only [apogeelaw13_RulesTells.j0] at H
  by_cases c12 : x16_2 = true
  ·subst c12
   rw [if_pos rfl] at H
   replace H := Option.bind_eq_some_iff.mp H
   obtain ⟨t491, A130, H⟩ := H
   have A13 := bA A130
   clear A130
   obtain rfl := Option.some.inj H
   go_wp2_with (first | ((first | ((with_reducible refine gate_callee (f := 14) rfl ?_); refine bC (some 17) Try.func14 #[] ?_) | go_at_call 14); (with_reducible refine (apogeelaw13_awake.calls kj2  t491 _ A13.out).mono ?_); rintro e w14 ⟨rfl, hb⟩; (first | refine ⟨_, rfl, ?_⟩ | skip); replace BK488 := bA (bB BK488 hb); replace HB := bA (bS hb); (try clear hb)))
   go_ret
   exact bF
  replace c12 := Bool.eq_false_iff.mpr c12
  subst c12
  rw [if_neg bn] at H
  replace H := Option.bind_eq_some_iff.mp H
  obtain ⟨t492, A150, H⟩ := H
  have A15 := bA A150
  clear A150
  replace H := Option.bind_eq_some_iff.mp H
  obtain ⟨⟨t493, t496, t497, t498, t499, t500⟩, A160, H⟩ := H
  replace H : (if a1 ≥ 0 then (apogeelaw13_RulesTells.j1 kj2 a1 t492 t500 (decide (a1 < (l0_0.length : Int))) l0_0 a0_1 a0_2 a0_3 a0_4 a0_5 a0_6 a0_7 a0_8 t493 t496 t497 t498 t499) else (apogeelaw13_RulesTells.j1 kj2 a1 t492 t500 false l0_0 a0_1 a0_2 a0_3 a0_4 a0_5 a0_6 a0_7 a0_8 t493 t496 t497 t498 t499)) = some r := H
  have A16 := bA A160
  clear A160
  have HC17 := bA H
  clear H
  obtain ⟨hcz18_0, hcz18_1, hcz18_2, hcz18_3, hcz18_4, hcz18_5, hcz18_6, hcz18_7, hcz18_8, hfz18_0, hfz18_1, hfz18_2, hfz18_3, hfz18_4, hfz18_5, hfz18_6, hfz18_7, hfz18_8⟩ := bc9 BK488
  go_upto_region 5 with (first | ((first | ((with_reducible refine gate_callee (f := 16) rfl ?_); refine bC (some 19) Try.func16 #[.agg #[.slice A0_0 l0_0.length c0_0, .int .i64 a0_1, .int .i64 a0_2, .int .i64 a0_3, .int .i64 a0_4, .int .i64 a0_5, .int .i64 a0_6, .int .i64 a0_7, .int .i64 a0_8]] ?_) | go_at_call 16); (with_reducible refine (apogeeref13_Wrong.calls kj2 _ _ l0_0 a0_1 a0_2 a0_3 a0_4 a0_5 a0_6 a0_7 a0_8 t492 _ ?side1 ?side2 A15.out).mono ?_); (case side1 => exact bQ HR0_0); (case side2 => exact HC0_0.out); rintro e w19 ⟨rfl, hb⟩; (first | refine ⟨_, rfl, ?_⟩ | skip); have n0_ := bA (bB BK488 hb); have n1_ := bA (bS hb); clear BK488; clear HB; have BK488 := n0_; have HB := n1_; clear n0_ n1_; (try clear hb); obtain ⟨hcz20_0, hcz20_1, hcz20_2, hcz20_3, hcz20_4, hcz20_5, hcz20_6, hcz20_7, hcz20_8, hfz20_0, hfz20_1, hfz20_2, hfz20_3, hfz20_4, hfz20_5, hfz20_6, hfz20_7, hfz20_8⟩ := bc9 BK488) | ((first | ((with_reducible refine gate_callee (f := 17) rfl ?_); refine bC (some 23) Try.func17 #[.agg #[.slice A0_0 l0_0.length c0_0, .int .i64 a0_1, .int .i64 a0_2, .int .i64 a0_3, .int .i64 a0_4, .int .i64 a0_5, .int .i64 a0_6, .int .i64 a0_7, .int .i64 a0_8], .int .i64 a1] ?_) | go_at_call 17); (with_reducible refine (rules_Phase.calls _ _ l0_0 a0_1 a0_2 a0_3 a0_4 a0_5 a0_6 a0_7 a0_8 a1 t493 t496 t497 t498 t499 t500 _ ?side1 ?side2 A16.out).mono ?_); (case side1 => exact bQ HR0_0); (case side2 => exact HC0_0.out); rintro e w21 ⟨v494, rfl, ho0, hb⟩; (first | refine ⟨_, rfl, ?_⟩ | skip); have n0_ := bA (Kd.R_lower ho0 bY); have n1_ := bA (bB BK488 hb); have n2_ := bA (bS hb); clear BK488; clear HB; have HO495 := n0_; have BK488 := n1_; have HB := n2_; clear n0_ n1_ n2_; (try clear hb); (try clear ho0)) | ((with_reducible refine gate_dst (N := 6) rfl ?_); (try (refine gate_guard (by rfl) ?_; dsimp only)); refine bE (N := 6) (cs := #[.slice none 0 0, .int .i64 0, .int .i64 0, .int .i64 0, .int .i64 0]) (t := 30) ?_; intro gb501 hg w22 hbox hb; have n0_ := bA (Kd.R_below (bRr HO495) hb); have n1_ := bA (bB BK488 hb); have n2_ := bA (bS hb); have n3_ := bA (hbox); have n4_ := bA (bZ hg); have n5_ := bA (bZ hg); have n6_ := bA (bL BK488 hg); have n7_ := bA (bG BK488 hg); clear HO495; clear BK488; clear HB; have HO495 := n0_; have BK488 := n1_; have HB := n2_; have BK501 := n3_; have GW501 := n4_; have GE501 := n5_; have NB488_501 := n6_; have NB501_488 := n7_; clear n0_ n1_ n2_ n3_ n4_ n5_ n6_ n7_; clear hb hbox hg; obtain ⟨Ao23, co23, eo23⟩ := Kd.R_slice HO495.out; subst eo23; have hnb24 := NB501_488.out; have hnc24 := NB488_501.out; obtain ⟨hcz25_0, hcz25_1, hcz25_2, hcz25_3, hcz25_4, hfz25_0, hfz25_1, hfz25_2, hfz25_3, hfz25_4⟩ := bc5 BK501))
  (try simp only [Act.put, List.setIfInBounds_toArray, List.set_cons_zero, List.set_cons_succ])
  go_cut [8] (fun v8 wc => ∃ (kq : Nat) (x8_16 : Bool), v8 = .bool x8_16 ∧ Aside0 (apogeelaw13_RulesTells.j1 kq a1 t492 t500 x8_16 l0_0 a0_1 a0_2 a0_3 a0_4 a0_5 a0_6 a0_7 a0_8 t493 t496 t497 t498 t499 = some r) ∧ Aside0 (kq ≤ kj2) ∧ Aside0 (Kd.R k41 41 wc w.heap.size (fun _ => True) (.slice Ao23 t493.length co23) t493) ∧ Aside0 (wc.heap[gb488]? = some (.cells #[(.slice A0_0 l0_0.length c0_0), .int .i64 a0_1, .int .i64 a0_2, .int .i64 a0_3, .int .i64 a0_4, .int .i64 a0_5, .int .i64 a0_6, .int .i64 a0_7, .int .i64 a0_8] 24 (0, 0))) ∧ Aside0 (wc.heap[gb501]? = some (.cells #[(.slice Ao23 t493.length co23), .int .i64 t496, .int .i64 t497, .int .i64 t498, .int .i64 t499] 30 (0, 0))) ∧ Aside0 (Below w.heap.size w wc))
  case first =>
   have H := HC17.out
   clear HC17
   by_cases c26 : a1 ≥ 0
   rw [if_pos c26] at H
   have c26b0 : decide (0 ≤ a1) = true := decide_eq_true c26
   clear c26
   (first | rw [c26b0] | (simp only [i64_w, i32_w]; rw [c26b0]) | skip)
   have H' := bA H
   clear H
   have hnb27 := NB488_501.out
   have hnc27 := NB501_488.out
   obtain ⟨hcz28_0, hcz28_1, hcz28_2, hcz28_3, hcz28_4, hcz28_5, hcz28_6, hcz28_7, hcz28_8, hfz28_0, hfz28_1, hfz28_2, hfz28_3, hfz28_4, hfz28_5, hfz28_6, hfz28_7, hfz28_8⟩ := bc9 BK488
   rotate_left
   rw [if_neg c26] at H
   have c26b0 : decide (0 ≤ a1) = false := decide_eq_false c26
   clear c26
   (first | rw [c26b0] | (simp only [i64_w, i32_w]; rw [c26b0]) | skip)
   have H' := bA H
   clear H
   rotate_left
   all_goals go_wp2
   ·go_meet
    case rel => exact ⟨_, (decide (a1 < (l0_0.length : Int))), bs, H', ⟨by have := HJ2.out; first | omega | exact Nat.le_refl _⟩, ⟨by (with_reducible repeat (first | apply Kd.R_alloc | apply Kd.R_drewN | apply Kd.R_drew)); exact Kd.R_mono (Kd.R_far (p := ⟨gb501, 4, none⟩) (Kd.R_far (p := ⟨gb501, 3, none⟩) (Kd.R_far (p := ⟨gb501, 2, none⟩) (Kd.R_far (p := ⟨gb501, 1, none⟩) (Kd.R_far (p := ⟨gb501, 0, none⟩) (Kd.R_types HO495.out BK501.out (by decide)) (fun _ hk => hk.2) (.slice Ao23 t493.length co23)) (fun _ hk => hk.2) (.int .i64 t496)) (fun _ hk => hk.2) (.int .i64 t497)) (fun _ hk => hk.2) (.int .i64 t498)) (fun _ hk => hk.2) (.int .i64 t499)) (fun _ hk => trivial)⟩, ⟨by (repeat ((with_reducible repeat (first | refine blk_drewN ?_ _ | refine blk_drew ?_ | refine blk_alloc ?_ _)); refine blk_far ?_ NB488_501.out _)); (with_reducible repeat (first | refine blk_drewN ?_ _ | refine blk_drew ?_ | refine blk_alloc ?_ _)); exact BK488.out⟩, ⟨by (with_reducible repeat (first | refine blk_drewN ?_ _ | refine blk_drew ?_ | refine blk_alloc ?_ _)); refine blk_put (cs := #[.slice Ao23 t493.length co23, .int .i64 t496, .int .i64 t497, .int .i64 t498, .int .i64 0]) ?_ 4 _ rfl; (with_reducible repeat (first | refine blk_drewN ?_ _ | refine blk_drew ?_ | refine blk_alloc ?_ _)); refine blk_put (cs := #[.slice Ao23 t493.length co23, .int .i64 t496, .int .i64 t497, .int .i64 0, .int .i64 0]) ?_ 3 _ rfl; (with_reducible repeat (first | refine blk_drewN ?_ _ | refine blk_drew ?_ | refine blk_alloc ?_ _)); refine blk_put (cs := #[.slice Ao23 t493.length co23, .int .i64 t496, .int .i64 0, .int .i64 0, .int .i64 0]) ?_ 2 _ rfl; (with_reducible repeat (first | refine blk_drewN ?_ _ | refine blk_drew ?_ | refine blk_alloc ?_ _)); refine blk_put (cs := #[.slice Ao23 t493.length co23, .int .i64 0, .int .i64 0, .int .i64 0, .int .i64 0]) ?_ 1 _ rfl; (with_reducible repeat (first | refine blk_drewN ?_ _ | refine blk_drew ?_ | refine blk_alloc ?_ _)); refine blk_put (cs := #[.slice none 0 0, .int .i64 0, .int .i64 0, .int .i64 0, .int .i64 0]) ?_ 0 _ rfl; (with_reducible repeat (first | refine blk_drewN ?_ _ | refine blk_drew ?_ | refine blk_alloc ?_ _)); exact BK501.out⟩, ⟨bX⟩⟩
   go_meet
   case rel => exact ⟨_, (false), bs, H', ⟨by have := HJ2.out; first | omega | exact Nat.le_refl _⟩, ⟨by (with_reducible repeat (first | apply Kd.R_alloc | apply Kd.R_drewN | apply Kd.R_drew)); exact Kd.R_mono (Kd.R_far (p := ⟨gb501, 4, none⟩) (Kd.R_far (p := ⟨gb501, 3, none⟩) (Kd.R_far (p := ⟨gb501, 2, none⟩) (Kd.R_far (p := ⟨gb501, 1, none⟩) (Kd.R_far (p := ⟨gb501, 0, none⟩) (Kd.R_types HO495.out BK501.out (by decide)) (fun _ hk => hk.2) (.slice Ao23 t493.length co23)) (fun _ hk => hk.2) (.int .i64 t496)) (fun _ hk => hk.2) (.int .i64 t497)) (fun _ hk => hk.2) (.int .i64 t498)) (fun _ hk => hk.2) (.int .i64 t499)) (fun _ hk => trivial)⟩, ⟨by (repeat ((with_reducible repeat (first | refine blk_drewN ?_ _ | refine blk_drew ?_ | refine blk_alloc ?_ _)); refine blk_far ?_ NB488_501.out _)); (with_reducible repeat (first | refine blk_drewN ?_ _ | refine blk_drew ?_ | refine blk_alloc ?_ _)); exact BK488.out⟩, ⟨by (with_reducible repeat (first | refine blk_drewN ?_ _ | refine blk_drew ?_ | refine blk_alloc ?_ _)); refine blk_put (cs := #[.slice Ao23 t493.length co23, .int .i64 t496, .int .i64 t497, .int .i64 t498, .int .i64 0]) ?_ 4 _ rfl; (with_reducible repeat (first | refine blk_drewN ?_ _ | refine blk_drew ?_ | refine blk_alloc ?_ _)); refine blk_put (cs := #[.slice Ao23 t493.length co23, .int .i64 t496, .int .i64 t497, .int .i64 0, .int .i64 0]) ?_ 3 _ rfl; (with_reducible repeat (first | refine blk_drewN ?_ _ | refine blk_drew ?_ | refine blk_alloc ?_ _)); refine blk_put (cs := #[.slice Ao23 t493.length co23, .int .i64 t496, .int .i64 0, .int .i64 0, .int .i64 0]) ?_ 2 _ rfl; (with_reducible repeat (first | refine blk_drewN ?_ _ | refine blk_drew ?_ | refine blk_alloc ?_ _)); refine blk_put (cs := #[.slice Ao23 t493.length co23, .int .i64 0, .int .i64 0, .int .i64 0, .int .i64 0]) ?_ 1 _ rfl; (with_reducible repeat (first | refine blk_drewN ?_ _ | refine blk_drew ?_ | refine blk_alloc ?_ _)); refine blk_put (cs := #[.slice none 0 0, .int .i64 0, .int .i64 0, .int .i64 0, .int .i64 0]) ?_ 0 _ rfl; (with_reducible repeat (first | refine blk_drewN ?_ _ | refine blk_drew ?_ | refine blk_alloc ?_ _)); exact BK501.out⟩, ⟨bX⟩⟩
  clear HC17
  try clear c1
  try clear c2
  try clear p2
  try clear c3
  try clear c6
  try clear c12
  try clear c14
  try clear c16
  try clear c17
  try clear c24
  try clear c26
  try clear c26b0
  try clear c27
  try clear hcz18_0
  try clear hcz18_1
  try clear hcz18_2
  try clear hcz18_3
  try clear hcz18_4
  try clear hcz18_5
  try clear hcz18_6
  try clear hcz18_7
  try clear hcz18_8
  try clear hcz20_0
  try clear hcz20_1
  try clear hcz20_2
  try clear hcz20_3
  try clear hcz20_4
  try clear hcz20_5
  try clear hcz20_6
  try clear hcz20_7
  try clear hcz20_8
  try clear hcz25_0
  try clear hcz25_1
  try clear hcz25_2
  try clear hcz25_3
  try clear hcz25_4
  try clear hcz28_0
  try clear hcz28_1
  try clear hcz28_2
  try clear hcz28_3
  try clear hcz28_4
  try clear hcz28_5
  try clear hcz28_6
  try clear hcz28_7
  try clear hcz28_8
  try clear hcz9_0
  try clear hcz9_1
  try clear hcz9_2
  try clear hcz9_3
  try clear hcz9_4
  try clear hcz9_5
  try clear hcz9_6
  try clear hcz9_7
  try clear hcz9_8
  try clear hfz18_0
  try clear hfz18_1
  try clear hfz18_2
  try clear hfz18_3
  try clear hfz18_4
  try clear hfz18_5
  try clear hfz18_6
  try clear hfz18_7
  try clear hfz18_8
  try clear hfz20_0
  try clear hfz20_1
  try clear hfz20_2
  try clear hfz20_3
  try clear hfz20_4
  try clear hfz20_5
  try clear hfz20_6
  try clear hfz20_7
  try clear hfz20_8
  try clear hfz25_0
  try clear hfz25_1
  try clear hfz25_2
  try clear hfz25_3
  try clear hfz25_4
  try clear hfz28_0
  try clear hfz28_1
  try clear hfz28_2
  try clear hfz28_3
  try clear hfz28_4
  try clear hfz28_5
  try clear hfz28_6
  try clear hfz28_7
  try clear hfz28_8
  try clear hfz9_0
  try clear hfz9_1
  try clear hfz9_2
  try clear hfz9_3
  try clear hfz9_4
  try clear hfz9_5
  try clear hfz9_6
  try clear hfz9_7
  try clear hfz9_8
  try clear p2
  obtain ⟨kq, x8_16, rfl, HA, HJ16, HO_502000, BK488, BK501, HB⟩ := hcut
  cases kq with
  | zero => exact absurd HA.out (by simp [apogeelaw13_RulesTells.j1])
  | succ kj16 =>
   have H := HA.out
   clear HA
   simp only [apogeelaw13_RulesTells.j1] at H
   have HC29 := bA H
   clear H
   go_upto_if 36 with (fail)
   go_cut [9] (fun v9 wc => ∃ (kq : Nat) (x9_28 : Int), v9 = .int .i64 x9_28 ∧ Aside0 (apogeelaw13_RulesTells.j2 kq a1 t492 t500 x8_16 x9_28 l0_0 a0_1 a0_2 a0_3 a0_4 a0_5 a0_6 a0_7 a0_8 t493 t496 t497 t498 t499 = some r) ∧ Aside0 (kq ≤ kj16) ∧ Aside0 (Kd.R k41 41 wc w.heap.size (fun _ => True) (.slice Ao23 t493.length co23) t493) ∧ Aside0 (wc.heap[gb488]? = some (.cells #[(.slice A0_0 l0_0.length c0_0), .int .i64 a0_1, .int .i64 a0_2, .int .i64 a0_3, .int .i64 a0_4, .int .i64 a0_5, .int .i64 a0_6, .int .i64 a0_7, .int .i64 a0_8] 24 (0, 0))) ∧ Aside0 (wc.heap[gb501]? = some (.cells #[(.slice Ao23 t493.length co23), .int .i64 t496, .int .i64 t497, .int .i64 t498, .int .i64 t499] 30 (0, 0))) ∧ Aside0 (Below w.heap.size w wc))
   case first =>
    have H := HC29.out
    clear HC29
    by_cases c30 : t492 = 0
    rw [if_pos c30] at H
    have c30b0 : (t492 == 0) = true := beq_iff_eq.mpr c30
    have c30b1 : (t492 != 0) = false := bne_eq_false_iff_eq.mpr c30
    clear c30
    (first | rw [c30b0] | (simp only [i64_w, i32_w]; rw [c30b0]) | skip)
    have H' := bA H
    clear H
    have hnb31 := NB488_501.out
    have hnc31 := NB501_488.out
    obtain ⟨hcz32_0, hcz32_1, hcz32_2, hcz32_3, hcz32_4, hcz32_5, hcz32_6, hcz32_7, hcz32_8, hfz32_0, hfz32_1, hfz32_2, hfz32_3, hfz32_4, hfz32_5, hfz32_6, hfz32_7, hfz32_8⟩ := bc9 BK488
    rotate_left
    rw [if_neg c30] at H
    have c30b0 : (t492 == 0) = false := beq_eq_false_iff_ne.mpr c30
    have c30b1 : (t492 != 0) = true := bne_iff_ne.mpr c30
    (first | rw [c30b0] | (simp only [i64_w, i32_w]; rw [c30b0]) | skip)
    have H' := bA H
    clear H
    rotate_left
    all_goals go_wp2
    ·go_meet
     case rel => exact ⟨_, (wrap64 ((wrap64 (a0_1 + a0_2)) + 2)), bs, H', ⟨by have := HJ2.out; have := HJ16.out; first | omega | exact Nat.le_refl _⟩, ⟨bRr HO_502000⟩, ⟨by (with_reducible repeat (first | refine blk_drewN ?_ _ | refine blk_drew ?_ | refine blk_alloc ?_ _)); exact BK488.out⟩, ⟨by (with_reducible repeat (first | refine blk_drewN ?_ _ | refine blk_drew ?_ | refine blk_alloc ?_ _)); exact BK501.out⟩, ⟨bX⟩⟩
    go_meet
    case rel => exact ⟨_, (0), bs, H', ⟨by have := HJ2.out; have := HJ16.out; first | omega | exact Nat.le_refl _⟩, ⟨bRr HO_502000⟩, ⟨by (with_reducible repeat (first | refine blk_drewN ?_ _ | refine blk_drew ?_ | refine blk_alloc ?_ _)); exact BK488.out⟩, ⟨by (with_reducible repeat (first | refine blk_drewN ?_ _ | refine blk_drew ?_ | refine blk_alloc ?_ _)); exact BK501.out⟩, ⟨bX⟩⟩
   clear HC29
   try clear c1
   try clear c2
   try clear p2
   try clear c3
   try clear c6
   try clear p6
   try clear c12
   try clear c14
   try clear c16
   try clear c17
   try clear c24
   try clear c26
   try clear c26b0
   try clear c27
   try clear c30
   try clear c30b0
   try clear c30b1
   try clear c31
   try clear hcz18_0
   try clear hcz18_1
   try clear hcz18_2
   try clear hcz18_3
   try clear hcz18_4
   try clear hcz18_5
   try clear hcz18_6
   try clear hcz18_7
   try clear hcz18_8
   try clear hcz20_0
   try clear hcz20_1
   try clear hcz20_2
   try clear hcz20_3
   try clear hcz20_4
   try clear hcz20_5
   try clear hcz20_6
   try clear hcz20_7
   try clear hcz20_8
   try clear hcz25_0
   try clear hcz25_1
   try clear hcz25_2
   try clear hcz25_3
   try clear hcz25_4
   try clear hcz28_0
   try clear hcz28_1
   try clear hcz28_2
   try clear hcz28_3
   try clear hcz28_4
   try clear hcz28_5
   try clear hcz28_6
   try clear hcz28_7
   try clear hcz28_8
   try clear hcz32_0
   try clear hcz32_1
   try clear hcz32_2
   try clear hcz32_3
   try clear hcz32_4
   try clear hcz32_5
   try clear hcz32_6
   try clear hcz32_7
   try clear hcz32_8
   try clear hcz9_0
   try clear hcz9_1
   try clear hcz9_2
   try clear hcz9_3
   try clear hcz9_4
   try clear hcz9_5
   try clear hcz9_6
   try clear hcz9_7
   try clear hcz9_8
   try clear hfz18_0
   try clear hfz18_1
   try clear hfz18_2
   try clear hfz18_3
   try clear hfz18_4
   try clear hfz18_5
   try clear hfz18_6
   try clear hfz18_7
   try clear hfz18_8
   try clear hfz20_0
   try clear hfz20_1
   try clear hfz20_2
   try clear hfz20_3
   try clear hfz20_4
   try clear hfz20_5
   try clear hfz20_6
   try clear hfz20_7
   try clear hfz20_8
   try clear hfz25_0
   try clear hfz25_1
   try clear hfz25_2
   try clear hfz25_3
   try clear hfz25_4
   try clear hfz28_0
   try clear hfz28_1
   try clear hfz28_2
   try clear hfz28_3
   try clear hfz28_4
   try clear hfz28_5
   try clear hfz28_6
   try clear hfz28_7
   try clear hfz28_8
   try clear hfz32_0
   try clear hfz32_1
   try clear hfz32_2
   try clear hfz32_3
   try clear hfz32_4
   try clear hfz32_5
   try clear hfz32_6
   try clear hfz32_7
   try clear hfz32_8
   try clear hfz9_0
   try clear hfz9_1
   try clear hfz9_2
   try clear hfz9_3
   try clear hfz9_4
   try clear hfz9_5
   try clear hfz9_6
   try clear hfz9_7
   try clear hfz9_8
   try clear p2
   obtain ⟨kq, x9_28, rfl, HA, HJ28, HO_502000, BK488, BK501, HB⟩ := hcut
   cases kq with
   | zero => exact absurd HA.out (by simp [apogeelaw13_RulesTells.j2])
   | succ kj28 =>
    have H := HA.out
    clear HA
    simp only [apogeelaw13_RulesTells.j2] at H
    have HC33 := bA H
    clear H
    go_upto_region 9 with (fail)
    go_cut [64] (fun v64 wc => ∃ (kq : Nat) (x64_32 : Bool), v64 = .bool x64_32 ∧ Aside0 (apogeelaw13_RulesTells.j3 kq a1 x8_16 x64_32 l0_0 a0_1 a0_2 a0_3 a0_4 a0_5 a0_6 a0_7 a0_8 t493 t496 t497 t498 t499 = some r) ∧ Aside0 (kq ≤ kj28) ∧ Aside0 (Kd.R k41 41 wc w.heap.size (fun _ => True) (.slice Ao23 t493.length co23) t493) ∧ Aside0 (wc.heap[gb488]? = some (.cells #[(.slice A0_0 l0_0.length c0_0), .int .i64 a0_1, .int .i64 a0_2, .int .i64 a0_3, .int .i64 a0_4, .int .i64 a0_5, .int .i64 a0_6, .int .i64 a0_7, .int .i64 a0_8] 24 (0, 0))) ∧ Aside0 (wc.heap[gb501]? = some (.cells #[(.slice Ao23 t493.length co23), .int .i64 t496, .int .i64 t497, .int .i64 t498, .int .i64 t499] 30 (0, 0))) ∧ Aside0 (Below w.heap.size w wc))
    case first =>
     have H := HC33.out
     clear HC33
     replace H := Option.bind_eq_some_iff.mp H
     obtain ⟨t502, A340, H⟩ := H
     have A34 := bA A340
     clear A340
     by_cases c35 : t502 = t492
     rw [if_pos c35] at H
     have c35b0 : (t502 == t492) = true := beq_iff_eq.mpr c35
     have c35b1 : (t502 != t492) = false := bne_eq_false_iff_eq.mpr c35
     clear c35
     (first | rw [c35b0] | (simp only [i64_w, i32_w]; rw [c35b0]) | skip)
     replace H := Option.bind_eq_some_iff.mp H
     obtain ⟨t503, A360, H⟩ := H
     have A36 := bA A360
     clear A360
     by_cases c37 : (t503 != (t492 == 0)) = true
     rw [if_pos c37] at H
     have c37b0 : (t503 != (t492 == 0)) = true := c37
     (try (have c37b1 : decide (t503 = (t492 == 0)) = false := by simpa using c37))
     (try (have c37b2 : (t503 == (t492 == 0)) = false := by simpa using c37))
     (try (have c37b3 : ¬ (t503 = (t492 == 0)) := by simpa using c37))
     clear c37
     have H' := bA H
     clear H
     have hnb38 := NB488_501.out
     have hnc38 := NB501_488.out
     obtain ⟨hcz39_0, hcz39_1, hcz39_2, hcz39_3, hcz39_4, hcz39_5, hcz39_6, hcz39_7, hcz39_8, hfz39_0, hfz39_1, hfz39_2, hfz39_3, hfz39_4, hfz39_5, hfz39_6, hfz39_7, hfz39_8⟩ := bc9 BK488
     rotate_left
     rw [if_neg c37] at H
     have c37b0 : (t503 != (t492 == 0)) = false := by simpa using c37
     (try (have c37b1 : decide (t503 = (t492 == 0)) = true := by simpa using c37))
     (try (have c37b2 : (t503 == (t492 == 0)) = true := by simpa using c37))
     clear c37
     by_cases c43 : (t500 != x8_16) = true
     rw [if_pos c43] at H
     have c43b0 : (t500 != x8_16) = true := c43
     (try (have c43b1 : decide (t500 = x8_16) = false := by simpa using c43))
     (try (have c43b2 : (t500 == x8_16) = false := by simpa using c43))
     (try (have c43b3 : ¬ (t500 = x8_16) := by simpa using c43))
     clear c43
     have H' := bA H
     clear H
     have hnb44 := NB488_501.out
     have hnc44 := NB501_488.out
     obtain ⟨hcz45_0, hcz45_1, hcz45_2, hcz45_3, hcz45_4, hcz45_5, hcz45_6, hcz45_7, hcz45_8, hfz45_0, hfz45_1, hfz45_2, hfz45_3, hfz45_4, hfz45_5, hfz45_6, hfz45_7, hfz45_8⟩ := bc9 BK488
     rotate_left
     rw [if_neg c43] at H
     have c43b0 : (t500 != x8_16) = false := by simpa using c43
     (try (have c43b1 : decide (t500 = x8_16) = true := by simpa using c43))
     (try (have c43b2 : (t500 == x8_16) = true := by simpa using c43))
     clear c43
     replace H := Option.bind_eq_some_iff.mp H
     obtain ⟨t504, A490, H⟩ := H
     have A49 := bA A490
     clear A490
     have H' := bA H
     clear H
     have hnb50 := NB488_501.out
     have hnc50 := NB501_488.out
     obtain ⟨hcz51_0, hcz51_1, hcz51_2, hcz51_3, hcz51_4, hcz51_5, hcz51_6, hcz51_7, hcz51_8, hfz51_0, hfz51_1, hfz51_2, hfz51_3, hfz51_4, hfz51_5, hfz51_6, hfz51_7, hfz51_8⟩ := bc9 BK488
     rotate_left
     rw [if_neg c35] at H
     have c35b0 : (t502 == t492) = false := beq_eq_false_iff_ne.mpr c35
     have c35b1 : (t502 != t492) = true := bne_iff_ne.mpr c35
     (first | rw [c35b0] | (simp only [i64_w, i32_w]; rw [c35b0]) | skip)
     have H' := bA H
     clear H
     have hnb57 := NB488_501.out
     have hnc57 := NB501_488.out
     obtain ⟨hcz58_0, hcz58_1, hcz58_2, hcz58_3, hcz58_4, hcz58_5, hcz58_6, hcz58_7, hcz58_8, hfz58_0, hfz58_1, hfz58_2, hfz58_3, hfz58_4, hfz58_5, hfz58_6, hfz58_7, hfz58_8⟩ := bc9 BK488
     rotate_left
     all_goals go_wp2_with (first | ((first | ((with_reducible refine gate_callee (f := 18) rfl ?_); refine bC (some 44) Try.func18 #[.agg #[.slice A0_0 l0_0.length c0_0, .int .i64 a0_1, .int .i64 a0_2, .int .i64 a0_3, .int .i64 a0_4, .int .i64 a0_5, .int .i64 a0_6, .int .i64 a0_7, .int .i64 a0_8]] ?_) | go_at_call 18); (with_reducible refine (rules_Wrong.calls kj28 _ _ l0_0 a0_1 a0_2 a0_3 a0_4 a0_5 a0_6 a0_7 a0_8 t502 _ ?side1 ?side2 A34.out).mono ?_); (case side1 => exact bQ HR0_0); (case side2 => exact HC0_0.out); rintro e wz0 ⟨rfl, hb⟩; (first | refine ⟨_, rfl, ?_⟩ | skip); replace HO_502000 := bA (Kd.R_below (bRr HO_502000) hb); replace BK488 := bA (bB BK488 hb); replace BK501 := bA (bB BK501 hb); replace HB := bA (bS hb); (try clear hb); obtain ⟨hz1, hz2, hz3, hz4, hz5, hz6, hz7, hz8, hz9, hz10, hz11, hz12, hz13, hz14, hz15, hz16, hz17, hz18⟩ := bc9 BK488) | (go_at_call 19; (with_reducible refine (rules_Right.calls kj28 _ _ l0_0 a0_1 a0_2 a0_3 a0_4 a0_5 a0_6 a0_7 a0_8 t503 _ ?side1 ?side2 A36.out).mono ?_); (case side1 => exact bQ HR0_0); (case side2 => exact HC0_0.out); rintro e wz1 ⟨rfl, hb⟩; replace HO_502000 := bA (Kd.R_below (bRr HO_502000) hb); replace BK488 := bA (bB BK488 hb); replace BK501 := bA (bB BK501 hb); replace HB := bA (bS hb); (try clear hb); obtain ⟨hz19, hz20, hz21, hz22, hz23, hz24, hz25, hz26, hz27, hz10, hz11, hz12, hz13, hz14, hz15, hz16, hz17, hz18⟩ := bc9 BK488) | (go_at_call 20; (with_reducible refine (rules_Window.calls kj28 _ _ l0_0 a0_1 a0_2 a0_3 a0_4 a0_5 a0_6 a0_7 a0_8 t504 _ ?side1 ?side2 A49.out).mono ?_); (case side1 => exact bQ HR0_0); (case side2 => exact HC0_0.out); rintro e wz2 ⟨rfl, hb⟩; replace HO_502000 := bA (Kd.R_below (bRr HO_502000) hb); replace BK488 := bA (bB BK488 hb); replace BK501 := bA (bB BK501 hb); replace HB := bA (bS hb); (try clear hb)))
     ·go_meet
      case rel => exact ⟨_, (true), bs, H', ⟨by have := HJ2.out; have := HJ16.out; have := HJ28.out; first | omega | exact Nat.le_refl _⟩, ⟨bRr HO_502000⟩, ⟨by (with_reducible repeat (first | refine blk_drewN ?_ _ | refine blk_drew ?_ | refine blk_alloc ?_ _)); exact BK488.out⟩, ⟨by (with_reducible repeat (first | refine blk_drewN ?_ _ | refine blk_drew ?_ | refine blk_alloc ?_ _)); exact BK501.out⟩, ⟨bX⟩⟩
     ·go_meet
      case rel => exact ⟨_, (true), bs, H', ⟨by have := HJ2.out; have := HJ16.out; have := HJ28.out; first | omega | exact Nat.le_refl _⟩, ⟨bRr HO_502000⟩, ⟨by (with_reducible repeat (first | refine blk_drewN ?_ _ | refine blk_drew ?_ | refine blk_alloc ?_ _)); exact BK488.out⟩, ⟨by (with_reducible repeat (first | refine blk_drewN ?_ _ | refine blk_drew ?_ | refine blk_alloc ?_ _)); exact BK501.out⟩, ⟨bX⟩⟩
     ·go_meet
      case rel => exact ⟨_, ((t504 != x9_28)), bs, H', ⟨by have := HJ2.out; have := HJ16.out; have := HJ28.out; first | omega | exact Nat.le_refl _⟩, ⟨bRr HO_502000⟩, ⟨by (with_reducible repeat (first | refine blk_drewN ?_ _ | refine blk_drew ?_ | refine blk_alloc ?_ _)); exact BK488.out⟩, ⟨by (with_reducible repeat (first | refine blk_drewN ?_ _ | refine blk_drew ?_ | refine blk_alloc ?_ _)); exact BK501.out⟩, ⟨bX⟩⟩
     go_meet
     case rel => exact ⟨_, (true), bs, H', ⟨by have := HJ2.out; have := HJ16.out; have := HJ28.out; first | omega | exact Nat.le_refl _⟩, ⟨bRr HO_502000⟩, ⟨by (with_reducible repeat (first | refine blk_drewN ?_ _ | refine blk_drew ?_ | refine blk_alloc ?_ _)); exact BK488.out⟩, ⟨by (with_reducible repeat (first | refine blk_drewN ?_ _ | refine blk_drew ?_ | refine blk_alloc ?_ _)); exact BK501.out⟩, ⟨bX⟩⟩
    clear HC33
    try clear c1
    try clear c2
    try clear p2
    try clear c3
    try clear c4
    try clear c5
    try clear c6
    try clear p6
    try clear c12
    try clear c14
    try clear c16
    try clear c17
    try clear c18
    try clear c24
    try clear c26
    try clear c26b0
    try clear c27
    try clear c30
    try clear c30b0
    try clear c30b1
    try clear c31
    try clear c35
    try clear c35b0
    try clear c35b1
    try clear c37
    try clear c37b0
    try clear c37b1
    try clear c37b2
    try clear c38
    try clear c43
    try clear c43b0
    try clear c43b1
    try clear c43b2
    try clear c44
    try clear c50
    try clear c57
    try clear hcz18_0
    try clear hcz18_1
    try clear hcz18_2
    try clear hcz18_3
    try clear hcz18_4
    try clear hcz18_5
    try clear hcz18_6
    try clear hcz18_7
    try clear hcz18_8
    try clear hcz20_0
    try clear hcz20_1
    try clear hcz20_2
    try clear hcz20_3
    try clear hcz20_4
    try clear hcz20_5
    try clear hcz20_6
    try clear hcz20_7
    try clear hcz20_8
    try clear hcz25_0
    try clear hcz25_1
    try clear hcz25_2
    try clear hcz25_3
    try clear hcz25_4
    try clear hcz28_0
    try clear hcz28_1
    try clear hcz28_2
    try clear hcz28_3
    try clear hcz28_4
    try clear hcz28_5
    try clear hcz28_6
    try clear hcz28_7
    try clear hcz28_8
    try clear hcz32_0
    try clear hcz32_1
    try clear hcz32_2
    try clear hcz32_3
    try clear hcz32_4
    try clear hcz32_5
    try clear hcz32_6
    try clear hcz32_7
    try clear hcz32_8
    try clear hcz39_0
    try clear hcz39_1
    try clear hcz39_2
    try clear hcz39_3
    try clear hcz39_4
    try clear hcz39_5
    try clear hcz39_6
    try clear hcz39_7
    try clear hcz39_8
    try clear hcz41_0
    try clear hcz41_1
    try clear hcz41_2
    try clear hcz41_3
    try clear hcz41_4
    try clear hcz41_5
    try clear hcz41_6
    try clear hcz41_7
    try clear hcz41_8
    try clear hcz45_0
    try clear hcz45_1
    try clear hcz45_2
    try clear hcz45_3
    try clear hcz45_4
    try clear hcz45_5
    try clear hcz45_6
    try clear hcz45_7
    try clear hcz45_8
    try clear hcz47_0
    try clear hcz47_1
    try clear hcz47_2
    try clear hcz47_3
    try clear hcz47_4
    try clear hcz47_5
    try clear hcz47_6
    try clear hcz47_7
    try clear hcz47_8
    try clear hcz51_0
    try clear hcz51_1
    try clear hcz51_2
    try clear hcz51_3
    try clear hcz51_4
    try clear hcz51_5
    try clear hcz51_6
    try clear hcz51_7
    try clear hcz51_8
    try clear hcz53_0
    try clear hcz53_1
    try clear hcz53_2
    try clear hcz53_3
    try clear hcz53_4
    try clear hcz53_5
    try clear hcz53_6
    try clear hcz53_7
    try clear hcz53_8
    try clear hcz55_0
    try clear hcz55_1
    try clear hcz55_2
    try clear hcz55_3
    try clear hcz55_4
    try clear hcz55_5
    try clear hcz55_6
    try clear hcz55_7
    try clear hcz55_8
    try clear hcz58_0
    try clear hcz58_1
    try clear hcz58_2
    try clear hcz58_3
    try clear hcz58_4
    try clear hcz58_5
    try clear hcz58_6
    try clear hcz58_7
    try clear hcz58_8
    try clear hcz9_0
    try clear hcz9_1
    try clear hcz9_2
    try clear hcz9_3
    try clear hcz9_4
    try clear hcz9_5
    try clear hcz9_6
    try clear hcz9_7
    try clear hcz9_8
    try clear hfz18_0
    try clear hfz18_1
    try clear hfz18_2
    try clear hfz18_3
    try clear hfz18_4
    try clear hfz18_5
    try clear hfz18_6
    try clear hfz18_7
    try clear hfz18_8
    try clear hfz20_0
    try clear hfz20_1
    try clear hfz20_2
    try clear hfz20_3
    try clear hfz20_4
    try clear hfz20_5
    try clear hfz20_6
    try clear hfz20_7
    try clear hfz20_8
    try clear hfz25_0
    try clear hfz25_1
    try clear hfz25_2
    try clear hfz25_3
    try clear hfz25_4
    try clear hfz28_0
    try clear hfz28_1
    try clear hfz28_2
    try clear hfz28_3
    try clear hfz28_4
    try clear hfz28_5
    try clear hfz28_6
    try clear hfz28_7
    try clear hfz28_8
    try clear hfz32_0
    try clear hfz32_1
    try clear hfz32_2
    try clear hfz32_3
    try clear hfz32_4
    try clear hfz32_5
    try clear hfz32_6
    try clear hfz32_7
    try clear hfz32_8
    try clear hfz39_0
    try clear hfz39_1
    try clear hfz39_2
    try clear hfz39_3
    try clear hfz39_4
    try clear hfz39_5
    try clear hfz39_6
    try clear hfz39_7
    try clear hfz39_8
    try clear hfz41_0
    try clear hfz41_1
    try clear hfz41_2
    try clear hfz41_3
    try clear hfz41_4
    try clear hfz41_5
    try clear hfz41_6
    try clear hfz41_7
    try clear hfz41_8
    try clear hfz45_0
    try clear hfz45_1
    try clear hfz45_2
    try clear hfz45_3
    try clear hfz45_4
    try clear hfz45_5
    try clear hfz45_6
    try clear hfz45_7
    try clear hfz45_8
    try clear hfz47_0
    try clear hfz47_1
    try clear hfz47_2
    try clear hfz47_3
    try clear hfz47_4
    try clear hfz47_5
    try clear hfz47_6
    try clear hfz47_7
    try clear hfz47_8
    try clear hfz51_0
    try clear hfz51_1
    try clear hfz51_2
    try clear hfz51_3
    try clear hfz51_4
    try clear hfz51_5
    try clear hfz51_6
    try clear hfz51_7
    try clear hfz51_8
    try clear hfz53_0
    try clear hfz53_1
    try clear hfz53_2
    try clear hfz53_3
    try clear hfz53_4
    try clear hfz53_5
    try clear hfz53_6
    try clear hfz53_7
    try clear hfz53_8
    try clear hfz55_0
    try clear hfz55_1
    try clear hfz55_2
    try clear hfz55_3
    try clear hfz55_4
    try clear hfz55_5
    try clear hfz55_6
    try clear hfz55_7
    try clear hfz55_8
    try clear hfz58_0
    try clear hfz58_1
    try clear hfz58_2
    try clear hfz58_3
    try clear hfz58_4
    try clear hfz58_5
    try clear hfz58_6
    try clear hfz58_7
    try clear hfz58_8
    try clear hfz9_0
    try clear hfz9_1
    try clear hfz9_2
    try clear hfz9_3
    try clear hfz9_4
    try clear hfz9_5
    try clear hfz9_6
    try clear hfz9_7
    try clear hfz9_8
    try clear p2
    try clear p6
    obtain ⟨kq, x64_32, rfl, HA, HJ32, HO_502000, BK488, BK501, HB⟩ := hcut
    cases kq with
    | zero => exact absurd HA.out (by simp [apogeelaw13_RulesTells.j3])
    | succ kj32 =>
     have H := HA.out
     clear HA
     simp only [apogeelaw13_RulesTells.j3] at H
     by_cases c60 : x64_32 = true
     ·subst c60
      rw [if_pos rfl] at H
      exact absurd H (by simp)
     replace c60 := Bool.eq_false_iff.mpr c60
     subst c60
     rw [if_neg bn] at H
     by_cases c61 : x8_16 = true
     rotate_left
     ·replace c61 := Bool.eq_false_iff.mpr c61
      subst c61
      rw [if_neg bn] at H
      replace H := Option.bind_eq_some_iff.mp H
      obtain ⟨t509, A720, H⟩ := H
      have A72 := bA A720
      clear A720
      obtain rfl := Option.some.inj H
      have hnb73 := NB501_488.out
      have hnc73 := NB488_501.out
      obtain ⟨hcz74_0, hcz74_1, hcz74_2, hcz74_3, hcz74_4, hfz74_0, hfz74_1, hfz74_2, hfz74_3, hfz74_4⟩ := bc5 BK501
      go_wp2_with (first | ((first | ((with_reducible refine gate_callee (f := 21) rfl ?_); refine bC (some 69) Try.func21 #[.agg #[.slice Ao23 t493.length co23, .int .i64 t496, .int .i64 t497, .int .i64 t498, .int .i64 t499], .agg #[.slice none 0 0, .int .i64 0, .int .i64 0, .int .i64 0, .int .i64 0]] ?_) | go_at_call 21); (refine (apogeeref13_SamePhase.calls kj32 _ _ t493 t496 t497 t498 t499 _ _ ([] : List (S41)) 0 0 0 0 t509 _ ?side1 ?side2 ?side3 ?side4 A72.out).mono ?_); (case side1 => repeat (first | exact (Kd.R_reads' HO_502000.out).2.2 | (with_reducible refine Kd.C_alloc ?_ _) | (with_reducible refine Kd.C_drewN ?_ _) | (with_reducible refine Kd.C_drew ?_))); (case side2 => exact (Kd.R_reads' HO_502000.out).2.1); (case side3 => exact Kd.C_nil _ _); (case side4 => exact Nat.le_refl _); rintro e w75 ⟨rfl, hb⟩; (first | refine ⟨_, rfl, ?_⟩ | skip); replace HO_502000 := bA (Kd.R_below (bRr HO_502000) hb); replace BK488 := bA (bB BK488 hb); replace BK501 := bA (bB BK501 hb); replace HB := bA (bS hb); (try clear hb)))
      go_ret
      exact bF
     subst c61
     rw [if_pos rfl] at H
     by_cases c62 : 0 ≤ a1
     rotate_left
     ·rw [if_neg c62] at H
      exact absurd H (by simp)
     rw [if_pos c62] at H
     have c62b0 : decide (0 ≤ a1) = true := decide_eq_true c62
     clear c62
     by_cases c63 : a1 < (l0_0.length : Int)
     rotate_left
     ·rw [if_neg c63] at H
      exact absurd H (by simp)
     rw [if_pos c63] at H
     have c63b0 : decide (a1 < (l0_0.length : Int)) = true := decide_eq_true c63
     clear c63
     replace H := Option.bind_eq_some_iff.mp H
     obtain ⟨t506, A640, H⟩ := H
     have A64 := bA A640
     clear A640
     by_cases c65 : t506 = true
     rotate_left
     ·replace c65 := Bool.eq_false_iff.mpr c65
      subst c65
      rw [if_neg bn] at H
      exact absurd H (by simp)
     subst c65
     rw [if_pos rfl] at H
     replace H := Option.bind_eq_some_iff.mp H
     obtain ⟨t507, A660, H⟩ := H
     have A66 := bA A660
     clear A660
     replace H := Option.bind_eq_some_iff.mp H
     obtain ⟨t508, A670, H⟩ := H
     have A67 := bA A670
     clear A670
     obtain rfl := Option.some.inj H
     try go_wp2
     replace HO_502000 := bA (Kd.R_drew HO_502000.out)
     replace BK488 := bA (blk_drew BK488.out)
     replace BK501 := bA (blk_drew BK501.out)
     replace HB := bA (below_drew1 HB.out)
     have p505 : 0 ≤ (a1 : Int) := bo
     have q505 : a1 < (l0_0.length : Int) := bo
     obtain ⟨ad505, A505_0, c505_0, e505, hx505_0, hx505_1, hx505_2, hx505_3, hx505_4, hl505_0, hi505_0⟩ := at_T30 HR0_0.out a1 p505 q505
     have hw505_4 := hx505_4
     have hw505_3 := hx505_3
     have hw505_2 := hx505_2
     have hw505_1 := hx505_1
     have hw505_0 := hx505_0
     cases e505
     replace hx505_0 := bK hx505_0
     replace hx505_1 := bK hx505_1
     replace hx505_2 := bK hx505_2
     replace hx505_3 := bK hx505_3
     replace hx505_4 := bK hx505_4
     have HR505_0 := bA hi505_0
     have HC505_0 := bA hl505_0
     clear hi505_0 hl505_0
     replace p505 := eq_true p505
     replace q505 := eq_true q505
     refine start_ (n := 15) (S := fun w' => w'.cell? ⟨gb501, 0, none⟩ = some (.slice Ao23 t493.length co23) ∧ w'.cell? ⟨gb501, 1, none⟩ = some (.int .i64 t496) ∧ w'.cell? ⟨gb501, 2, none⟩ = some (.int .i64 t497) ∧ w'.cell? ⟨gb501, 3, none⟩ = some (.int .i64 t498) ∧ w'.cell? ⟨gb501, 4, none⟩ = some (.int .i64 t499) ∧ w'.cell? ⟨gb488, 0, none⟩ = some (.slice (some ad505) l0_0.length c0_0) ∧ w'.cell? ⟨gb488, 1, none⟩ = some (.int .i64 a0_1) ∧ w'.cell? ⟨gb488, 2, none⟩ = some (.int .i64 a0_2) ∧ w'.cell? ⟨gb488, 3, none⟩ = some (.int .i64 a0_3) ∧ w'.cell? ⟨gb488, 4, none⟩ = some (.int .i64 a0_4) ∧ w'.cell? ⟨gb488, 5, none⟩ = some (.int .i64 a0_5) ∧ w'.cell? ⟨gb488, 6, none⟩ = some (.int .i64 a0_6) ∧ w'.cell? ⟨gb488, 7, none⟩ = some (.int .i64 a0_7) ∧ w'.cell? ⟨gb488, 8, none⟩ = some (.int .i64 a0_8) ∧ w'.cell? (ad505.add ((a1).toNat * 5)) = some (.slice A505_0 ((rd_T30 l0_0 a1).f0).length c505_0) ∧ w'.cell? ⟨(ad505.add ((a1).toNat * 5)).block, (ad505.add ((a1).toNat * 5)).off + 1, none⟩ = some (.int .i64 ((rd_T30 l0_0 a1).f1)) ∧ w'.cell? ⟨(ad505.add ((a1).toNat * 5)).block, (ad505.add ((a1).toNat * 5)).off + 2, none⟩ = some (.int .i64 ((rd_T30 l0_0 a1).f2)) ∧ w'.cell? ⟨(ad505.add ((a1).toNat * 5)).block, (ad505.add ((a1).toNat * 5)).off + 3, none⟩ = some (.int .i64 ((rd_T30 l0_0 a1).f3)) ∧ w'.cell? ⟨(ad505.add ((a1).toNat * 5)).block, (ad505.add ((a1).toNat * 5)).off + 4, none⟩ = some (.int .i64 ((rd_T30 l0_0 a1).f4))) (ds := []) #[false,false,false,false,false,false,false,false,false,false,false,false,false,false,false] (by kernel_rfl) rfl rfl ⟨bq BK501 0, bq BK501 1, bq BK501 2, bq BK501 3, bq BK501 4, bq BK488 0, bq BK488 1, bq BK488 2, bq BK488 3, bq BK488 4, bq BK488 5, bq BK488 6, bq BK488 7, bq BK488 8, (bK hw505_0), (bK hw505_1), (bK hw505_2), (bK hw505_3), (bK hw505_4)⟩ (fun hHeld => ?_); refine with_tabW apogeelaw13_RulesTells.tab13 apogeelaw13_RulesTells.bits13 (fun HT_ HW_ => ?_)
     generalize wc.drew = w68 at HO_502000 BK488 BK501 HB HR505_0 hx505_0 hx505_1 hx505_2 hx505_3 hx505_4 hHeld ⊢
     refine bU (i := 1) (N := some 71) ?_
     refine bU (i := 3) (N := some 73) ?_
     refine bW (i := 0) (N := some 70) hHeld ?_
     refine bW (i := 2) (N := some 72) hHeld ?_
     refine bU (i := 4) (N := some 74) ?_
     refine bW (i := 5) (N := some 75) hHeld ?_
     refine one_ (i := 6) (N := some 76) #[true,true,true,true,true,true,true,false,false,false,false,false,false,false,false] rfl rfl (one_of HT_.out (by kernel_rfl)) (by decide) (fun K hK => ?_)
     refine goes_ Try.func21 (by kernel_rfl) rfl #[.agg #[.slice Ao23 t493.length co23, .int .i64 t496, .int .i64 t497, .int .i64 t498, .int .i64 t499], .agg #[.slice A505_0 ((rd_T30 l0_0 a1).f0).length c505_0, .int .i64 ((rd_T30 l0_0 a1).f1), .int .i64 ((rd_T30 l0_0 a1).f2), .int .i64 ((rd_T30 l0_0 a1).f3), .int .i64 ((rd_T30 l0_0 a1).f4)]] (by rfl) rfl rfl (by (try simp only [List.map_toArray, List.map_cons, List.map_nil]); first | done | rfl | (simp only [List.length_drop, List.length_take]; rfl)) ?_
     with_reducible refine (apogeeref13_SamePhase.calls kj32 _ _ t493 t496 t497 t498 t499 _ _ ((rd_T30 l0_0 a1).f0) ((rd_T30 l0_0 a1).f1) ((rd_T30 l0_0 a1).f2) ((rd_T30 l0_0 a1).f3) ((rd_T30 l0_0 a1).f4) true _ ?side1 ?side2 ?side3 ?side4 A64.out).mono ?_
     (case side1 => repeat (first | exact (Kd.R_reads' HO_502000.out).2.2 | (with_reducible refine Kd.C_alloc ?_ _) | (with_reducible refine Kd.C_drewN ?_ _) | (with_reducible refine Kd.C_drew ?_)))
     (case side2 => exact (Kd.R_reads' HO_502000.out).2.1)
     (case side3 => exact bQ HR505_0)
     (case side4 => exact HC505_0.out)
     rintro e w69 ⟨rfl, hb⟩
     refine ⟨_, rfl, ?_⟩
     replace HO_502000 := bA (Kd.R_below (bRr HO_502000) hb)
     replace BK488 := bA (bB BK488 hb)
     replace BK501 := bA (bB BK501 hb)
     replace HB := bA (bS hb)
     (try clear hb)
     refine hK.out _ _ ⟨bq BK501 0, bq BK501 1, bq BK501 2, bq BK501 3, bq BK501 4, bq BK488 0, bq BK488 1, bq BK488 2, bq BK488 3, bq BK488 4, bq BK488 5, bq BK488 6, bq BK488 7, bq BK488 8, (bK hw505_0), (bK hw505_1), (bK hw505_2), (bK hw505_3), (bK hw505_4)⟩ (fun hHeld => ?_)
     clear hK K
     refine bH ?_
     refine bU (i := 7) (N := some 77) ?_
     refine bW (i := 8) (N := some 78) hHeld ?_
     refine bW (i := 10) (N := some 80) hHeld ?_
     refine one_ (i := 9) (N := some 79) #[true,true,true,true,true,true,true,true,true,true,true,false,false,false,false] rfl rfl (one_of HT_.out (by kernel_rfl)) (by decide) (fun K hK => ?_)
     refine goes_ Try.func22 (by kernel_rfl) rfl #[.agg #[.slice Ao23 t493.length co23, .int .i64 t496, .int .i64 t497, .int .i64 t498, .int .i64 t499]] (by rfl) rfl rfl (by (try simp only [List.map_toArray, List.map_cons, List.map_nil]); first | done | rfl | (simp only [List.length_drop, List.length_take]; rfl)) ?_
     with_reducible refine (rules_RightPhase.calls kj32 _ _ t493 t496 t497 t498 t499 t507 _ ?side1 ?side2 A66.out).mono ?_
     (case side1 => repeat (first | exact (Kd.R_reads' HO_502000.out).2.2 | (with_reducible refine Kd.C_alloc ?_ _) | (with_reducible refine Kd.C_drewN ?_ _) | (with_reducible refine Kd.C_drew ?_)))
     (case side2 => exact (Kd.R_reads' HO_502000.out).2.1)
     rintro e w70 ⟨rfl, hb⟩
     refine ⟨_, rfl, ?_⟩
     replace HO_502000 := bA (Kd.R_below (bRr HO_502000) hb)
     replace BK488 := bA (bB BK488 hb)
     replace BK501 := bA (bB BK501 hb)
     replace HB := bA (bS hb)
     (try clear hb)
     refine hK.out _ _ ⟨bq BK501 0, bq BK501 1, bq BK501 2, bq BK501 3, bq BK501 4, bq BK488 0, bq BK488 1, bq BK488 2, bq BK488 3, bq BK488 4, bq BK488 5, bq BK488 6, bq BK488 7, bq BK488 8, (bK hw505_0), (bK hw505_1), (bK hw505_2), (bK hw505_3), (bK hw505_4)⟩ (fun hHeld => ?_)
     clear hK K
     refine bH ?_
     refine one_ (i := 11) (N := some 81) #[true,true,true,true,true,true,true,true,true,true,true,true,false,false,false] rfl rfl (one_of HT_.out (by kernel_rfl)) (by decide) (fun K hK => ?_)
     refine goes_ Try.func23 (by kernel_rfl) rfl #[.agg #[.slice Ao23 t493.length co23, .int .i64 t496, .int .i64 t497, .int .i64 t498, .int .i64 t499]] (by rfl) rfl rfl (by (try simp only [List.map_toArray, List.map_cons, List.map_nil]); first | done | rfl | (simp only [List.length_drop, List.length_take]; rfl)) ?_
     with_reducible refine (apogeeref13_RightPhase.calls kj32 _ _ t493 t496 t497 t498 t499 t508 _ ?side1 ?side2 A67.out).mono ?_
     (case side1 => repeat (first | exact (Kd.R_reads' HO_502000.out).2.2 | (with_reducible refine Kd.C_alloc ?_ _) | (with_reducible refine Kd.C_drewN ?_ _) | (with_reducible refine Kd.C_drew ?_)))
     (case side2 => exact (Kd.R_reads' HO_502000.out).2.1)
     rintro e w71 ⟨rfl, hb⟩
     refine ⟨_, rfl, ?_⟩
     replace HO_502000 := bA (Kd.R_below (bRr HO_502000) hb)
     replace BK488 := bA (bB BK488 hb)
     replace BK501 := bA (bB BK501 hb)
     replace HB := bA (bS hb)
     (try clear hb)
     refine hK.out _ _ ⟨bq BK501 0, bq BK501 1, bq BK501 2, bq BK501 3, bq BK501 4, bq BK488 0, bq BK488 1, bq BK488 2, bq BK488 3, bq BK488 4, bq BK488 5, bq BK488 6, bq BK488 7, bq BK488 8, (bK hw505_0), (bK hw505_1), (bK hw505_2), (bK hw505_3), (bK hw505_4)⟩ (fun hHeld => ?_)
     clear hK K
     refine bH ?_
     refine bU (i := 12) (N := some 82) ?_
     refine bU (i := 13) (N := some 83) ?_
     refine bU (i := 14) (N := some 4) ?_
     refine done_ (done_of HT_.out (by kernel_rfl)) ?_
     try go_wp2
     go_ret
     exact bF
end Go.Proofs.Ytjmibjmlihmglaa.G
