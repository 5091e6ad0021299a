/- RulesWindow, in plain numbers: the window of rules that may be is above both limits, else it is none; no condition. -/
import Derived.Test.YtjmibjmlihmglaaGx11
import Derived.Test.YtjmibjmlihmglaaGx23
import Derived.Test.YtjmibjmlihmglaaArith
import Derived.Test.YtjmibjmlihmglaaWideBase
import Derived.Test.YtjmibjmlihmglaaWide128
import Derived.Test.YtjmibjmlihmglaaWideMul
import Derived.Test.YtjmibjmlihmglaaGeo
import Derived.Test.YtjmibjmlihmglaaPoint
import Derived.Test.YtjmibjmlihmglaaPoly
import Derived.Test.YtjmibjmlihmglaaRules
import Derived.Test.YtjmibjmlihmglaaStRulesWindow
namespace Go.Proofs.Ytjmibjmlihmglaa.Pure
open Go.RowKit Go.Proofs.Ytjmibjmlihmglaa.G Go.Proofs.Ytjmibjmlihmglaa.Q Go.Proofs.Ytjmibjmlihmglaa.Geo Go.Proofs.YtjmibjmlihmglaaW.PrintWords Go.Proofs.YtjmibjmlihmglaaW.PrintLast Go.Proofs.YtjmibjmlihmglaaW.PrintMore
set_option linter.unusedVariables false

theorem RulesWindow : G.RulesWindow.Pure := by
  intro x hx
  have hl : x.f0.length ≤ 9223372036854775807 := hx.1.1
  apply ev_some
  refine Ev.congr (fun k => rfl) (Ev.bind awake13 (Ev.congr (fun k => if_pos rfl) (Ev.bind (few_ev x.f0 hl x.f1 x.f2 x.f3 x.f4 x.f5 x.f6 x.f7 x.f8) ?_)))
  cases hf : fewS x.f0 with
  | false => exact Ev.step (f := fun k => (apogeelaw13_awake.f k).bind fun t => (some t)) (fun k => by simp only [apogeelaw13_RulesWindow.j0]; rw [if_pos (by decide)]) (Ev.bind awake13 (Ev.now _))
  | true =>
    have hs := small_few hf
    refine Ev.step (fun k => by simp only [apogeelaw13_RulesWindow.j0]; rw [if_neg (by decide)]) (Ev.bind (prog_window x.f0 hs x.f1 x.f2 x.f3 x.f4 x.f5 x.f6 x.f7 x.f8) (Ev.bind (ref_wrong x.f0 hs x.f1 x.f2 x.f3 x.f4 x.f5 x.f6 x.f7 x.f8) ?_))
    by_cases c : wrongS x.f0 x.f1 x.f2 x.f3 x.f4 x.f5 x.f6 x.f7 x.f8 = 0
    · have h := wrong_zero c
      unfold winS
      rw [if_pos c, if_pos c, if_pos (by omega), if_pos (by omega), if_pos (by omega), decide_eq_true (by omega)]; exact Ev.now _
    · unfold winS
      rw [if_neg c, if_neg c]; exact Ev.now _

end Go.Proofs.Ytjmibjmlihmglaa.Pure
