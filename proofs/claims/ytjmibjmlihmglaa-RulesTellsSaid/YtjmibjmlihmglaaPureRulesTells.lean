/- RulesTells, in plain numbers: of any rules which one is wrong first, the window and each phase are the reference's; no condition. -/
import Derived.Test.YtjmibjmlihmglaaGx0
import Derived.Test.YtjmibjmlihmglaaGx10
import Derived.Test.YtjmibjmlihmglaaGx11
import Derived.Test.YtjmibjmlihmglaaGx18
import Derived.Test.YtjmibjmlihmglaaGx20
import Derived.Test.YtjmibjmlihmglaaGx21
import Derived.Test.YtjmibjmlihmglaaGx3
import Derived.Test.YtjmibjmlihmglaaGx8
import Derived.Test.YtjmibjmlihmglaaGx9
import Derived.Test.YtjmibjmlihmglaaArith
import Derived.Test.YtjmibjmlihmglaaWideBase
import Derived.Test.YtjmibjmlihmglaaWide128
import Derived.Test.YtjmibjmlihmglaaWideMul
import Derived.Test.YtjmibjmlihmglaaGeoBase
import Derived.Test.YtjmibjmlihmglaaPoint
import Derived.Test.YtjmibjmlihmglaaPoly
import Derived.Test.YtjmibjmlihmglaaRules
import Derived.Test.YtjmibjmlihmglaaStRulesTells
namespace Go.Proofs.Ytjmibjmlihmglaa.Pure
open Go.RowKit Go.Proofs.Ytjmibjmlihmglaa.G Go.Proofs.Ytjmibjmlihmglaa.Q Go.Proofs.Ytjmibjmlihmglaa.Geo Go.Proofs.YtjmibjmlihmglaaW.PrintWords Go.Proofs.YtjmibjmlihmglaaW.PrintLast Go.Proofs.YtjmibjmlihmglaaW.PrintMore
set_option linter.unusedVariables false

theorem same_loop (l : List S41) (hl : l.length ≤ 4611686018427387904) (d : Nat) : ∀ i : Nat, i + d = l.length → Ev (fun k => apogeeref10_Same.l0 k l l i) true := by
  induction d with
  | zero => intro i hi; exact Ev.step (f := fun _ => some true) (fun k => by simp only [apogeeref10_Same.l0]; rw [if_neg (by omega)]) (Ev.now _)
  | succ d ih =>
    intro i hi
    refine Ev.step (f := fun k => apogeeref10_Same.l0 k l l ((i + 1 : Nat) : Int)) (fun k => ?_) (ih (i + 1) (by omega))
    simp only [apogeeref10_Same.l0]
    rw [if_pos (by omega), if_pos (by omega), if_pos (by omega), if_neg (by simp), w64 (by omega) (by omega)]; rfl
theorem same_ev (l : List S41) (hl : l.length ≤ 4611686018427387904) : Ev (fun k => apogeeref10_Same.f k l l) true :=
  Ev.congr (fun k => if_pos rfl) (same_loop l hl l.length 0 (by omega))
theorem samePhase_ev (l : List S41) (hl : l.length ≤ 4611686018427387904) (a b c d : Int) : Ev (fun k => apogeeref13_SamePhase.f k l a b c d l a b c d) true :=
  Ev.congr (fun k => rfl) (Ev.bind (same_ev l hl) (Ev.congr (f := fun _ => some true) (fun k => by simp) (Ev.now _)))

theorem RulesTells : G.RulesTells.Pure := by
  intro x i hx hi
  have hl : x.f0.length ≤ 9223372036854775807 := hx.1.1
  apply ev_some
  refine Ev.congr (fun k => rfl) (Ev.bind awake13 (Ev.congr (fun k => if_pos rfl) (Ev.bind (few_ev x.f0 hl x.f1 x.f2 x.f3 x.f4 x.f5 x.f6 x.f7 x.f8) ?_)))
  cases hf : fewS x.f0 with
  | false => exact Ev.step (f := fun k => (apogeelaw13_awake.f k).bind fun t => (some t)) (fun k => by simp only [apogeelaw13_RulesTells.j0]; rw [if_pos (by decide)]) (Ev.bind awake13 (Ev.now _))
  | true =>
    have hs := small_few hf
    have h8 := (few_small hf).1
    have W := prog_wrong x.f0 hs x.f1 x.f2 x.f3 x.f4 x.f5 x.f6 x.f7 x.f8
    have R := prog_rr x.f0 hs x.f1 x.f2 x.f3 x.f4 x.f5 x.f6 x.f7 x.f8
    have V := prog_window x.f0 hs x.f1 x.f2 x.f3 x.f4 x.f5 x.f6 x.f7 x.f8
    -- what follows once the phase is told
    have J : ∀ (b : Bool) (l : List S41) (p q r s : Int), Ev (fun k => apogeelaw13_RulesTells.j3 k i b false x.f0 x.f1 x.f2 x.f3 x.f4 x.f5 x.f6 x.f7 x.f8 l p q r s) true →
        Ev (fun k => apogeelaw13_RulesTells.j1 k i (wrongS x.f0 x.f1 x.f2 x.f3 x.f4 x.f5 x.f6 x.f7 x.f8) b b x.f0 x.f1 x.f2 x.f3 x.f4 x.f5 x.f6 x.f7 x.f8 l p q r s) true := by
      intro b l p q r s H
      refine Ev.step (f := fun k => apogeelaw13_RulesTells.j2 k i (wrongS x.f0 x.f1 x.f2 x.f3 x.f4 x.f5 x.f6 x.f7 x.f8) b b (winS x.f0 x.f1 x.f2 x.f3 x.f4 x.f5 x.f6 x.f7 x.f8) x.f0 x.f1 x.f2 x.f3 x.f4 x.f5 x.f6 x.f7 x.f8 l p q r s) (fun k => ?_) ?_
      · simp only [apogeelaw13_RulesTells.j1]
        unfold winS
        by_cases c : wrongS x.f0 x.f1 x.f2 x.f3 x.f4 x.f5 x.f6 x.f7 x.f8 = 0
        · have h := wrong_zero c
          rw [if_pos c, if_pos c, w64 (x := x.f1 + x.f2) (by omega) (by omega), w64 (by omega) (by omega)]
        · rw [if_neg c, if_neg c]
      · refine Ev.step (f := fun k => (rules_Wrong.f k x.f0 x.f1 x.f2 x.f3 x.f4 x.f5 x.f6 x.f7 x.f8).bind fun t502 => (if t502 = (wrongS x.f0 x.f1 x.f2 x.f3 x.f4 x.f5 x.f6 x.f7 x.f8) then ((rules_Right.f k x.f0 x.f1 x.f2 x.f3 x.f4 x.f5 x.f6 x.f7 x.f8).bind fun t503 => (if (t503 != ((wrongS x.f0 x.f1 x.f2 x.f3 x.f4 x.f5 x.f6 x.f7 x.f8) == 0)) = true then (apogeelaw13_RulesTells.j3 k i b true x.f0 x.f1 x.f2 x.f3 x.f4 x.f5 x.f6 x.f7 x.f8 l p q r s) else (if (b != b) = true then (apogeelaw13_RulesTells.j3 k i b true x.f0 x.f1 x.f2 x.f3 x.f4 x.f5 x.f6 x.f7 x.f8 l p q r s) else ((rules_Window.f k x.f0 x.f1 x.f2 x.f3 x.f4 x.f5 x.f6 x.f7 x.f8).bind fun t504 => (apogeelaw13_RulesTells.j3 k i b (t504 != (winS x.f0 x.f1 x.f2 x.f3 x.f4 x.f5 x.f6 x.f7 x.f8)) x.f0 x.f1 x.f2 x.f3 x.f4 x.f5 x.f6 x.f7 x.f8 l p q r s))))) else (apogeelaw13_RulesTells.j3 k i b true x.f0 x.f1 x.f2 x.f3 x.f4 x.f5 x.f6 x.f7 x.f8 l p q r s))) (fun k => by simp only [apogeelaw13_RulesTells.j2]) (Ev.bind W (Ev.congr (fun k => if_pos rfl) (Ev.bind R (Ev.congr (fun k => if_neg (by simp)) (Ev.congr (fun k => if_neg (by simp)) (Ev.bind V ?_))))))
        have e : (winS x.f0 x.f1 x.f2 x.f3 x.f4 x.f5 x.f6 x.f7 x.f8 != winS x.f0 x.f1 x.f2 x.f3 x.f4 x.f5 x.f6 x.f7 x.f8) = false := by simp
        rw [e]; exact H
    refine Ev.step (fun k => by simp only [apogeelaw13_RulesTells.j0]; rw [if_neg (by decide)]) (Ev.bind (ref_wrong x.f0 hs x.f1 x.f2 x.f3 x.f4 x.f5 x.f6 x.f7 x.f8) ?_)
    by_cases c : 0 ≤ i ∧ i < (x.f0.length : Int)
    · obtain ⟨c1, c2⟩ := c
      obtain ⟨n, rfl⟩ : ∃ n : Nat, i = (n : Int) := ⟨i.toNat, by omega⟩
      have hn : n < x.f0.length := by omega
      have h12 : (phAt x.f0 n).f0.length ≤ 12 := by rw [phAt_get x.f0 n hn]; exact (few_small hf).2 _ (List.getElem_mem hn)
      have hp : rules_Phase.f x.f0 x.f1 x.f2 x.f3 x.f4 x.f5 x.f6 x.f7 x.f8 n = some ((phAt x.f0 n).f0, (phAt x.f0 n).f1, (phAt x.f0 n).f2, (phAt x.f0 n).f3, (phAt x.f0 n).f4, true) := by
        unfold rules_Phase.f
        rw [if_neg (by omega), if_neg (by omega), if_pos c1, if_pos c2]
        have hc : slices_Clone_Point.f (phAt x.f0 n).f0 = some (phAt x.f0 n).f0 := by
          unfold slices_Clone_Point.f
          simp only [Option.bind_some, List.length_nil, List.nil_append]; rw [if_pos (by omega)]
        show ((slices_Clone_Point.f (phAt x.f0 n).f0).bind _) = _
        rw [hc]; rfl
      refine Ev.congr (fun k => by rw [hp]; simp only [Option.bind_some]; rw [if_pos c1, decide_eq_true c2]) (J true _ _ _ _ _ ?_)
      have hl2 : (phAt x.f0 n).f0.length ≤ 4611686018427387904 := by omega
      refine Ev.step (f := fun k => (apogeeref13_SamePhase.f k (phAt x.f0 n).f0 (phAt x.f0 n).f1 (phAt x.f0 n).f2 (phAt x.f0 n).f3 (phAt x.f0 n).f4 (phAt x.f0 n).f0 (phAt x.f0 n).f1 (phAt x.f0 n).f2 (phAt x.f0 n).f3 (phAt x.f0 n).f4).bind fun t506 => (if t506 = true then ((rules_RightPhase.f k (phAt x.f0 n).f0 (phAt x.f0 n).f1 (phAt x.f0 n).f2 (phAt x.f0 n).f3 (phAt x.f0 n).f4).bind fun t507 => ((apogeeref13_RightPhase.f k (phAt x.f0 n).f0 (phAt x.f0 n).f1 (phAt x.f0 n).f2 (phAt x.f0 n).f3 (phAt x.f0 n).f4).bind fun t508 => (some (t507 == t508)))) else (none))) (fun k => ?_)
        (Ev.bind (samePhase_ev _ hl2 _ _ _ _) (Ev.congr (fun k => if_pos rfl) (Ev.bind (prog_phase _ hl2 _ _ _ _) (Ev.bind (ref_phase _ hl2 _ _ _ _) ?_))))
      · simp only [apogeelaw13_RulesTells.j3]; rw [if_neg (by decide), if_pos trivial, if_pos c1, if_pos c2]; rfl
      · rw [beq_self_eq_true]; exact Ev.now _
    · have hp : rules_Phase.f x.f0 x.f1 x.f2 x.f3 x.f4 x.f5 x.f6 x.f7 x.f8 i = some (([] : List S41), 0, 0, 0, 0, false) := by
        unfold rules_Phase.f
        by_cases c1 : i < 0
        · rw [if_pos c1]
        · rw [if_neg c1, if_pos (by omega)]
      have he : ∀ k, (if i ≥ 0 then (apogeelaw13_RulesTells.j1 k i (wrongS x.f0 x.f1 x.f2 x.f3 x.f4 x.f5 x.f6 x.f7 x.f8) false (decide (i < (x.f0.length : Int))) x.f0 x.f1 x.f2 x.f3 x.f4 x.f5 x.f6 x.f7 x.f8 [] 0 0 0 0) else (apogeelaw13_RulesTells.j1 k i (wrongS x.f0 x.f1 x.f2 x.f3 x.f4 x.f5 x.f6 x.f7 x.f8) false false x.f0 x.f1 x.f2 x.f3 x.f4 x.f5 x.f6 x.f7 x.f8 [] 0 0 0 0)) = apogeelaw13_RulesTells.j1 k i (wrongS x.f0 x.f1 x.f2 x.f3 x.f4 x.f5 x.f6 x.f7 x.f8) false false x.f0 x.f1 x.f2 x.f3 x.f4 x.f5 x.f6 x.f7 x.f8 [] 0 0 0 0 := by
        intro k
        by_cases c1 : i ≥ 0
        · rw [if_pos c1, decide_eq_false (by omega)]
        · rw [if_neg c1]
      refine Ev.congr (fun k => by rw [hp]; simp only [Option.bind_some]; rw [he]) (J false _ _ _ _ _ ?_)
      refine Ev.step (f := fun k => (apogeeref13_SamePhase.f k [] 0 0 0 0 [] 0 0 0 0).bind fun t => (some t)) (fun k => by simp only [apogeelaw13_RulesTells.j3]; rw [if_neg (by decide), if_neg (by decide)]) (Ev.bind (samePhase_ev [] (by simp) 0 0 0 0) (Ev.now _))

end Go.Proofs.Ytjmibjmlihmglaa.Pure
