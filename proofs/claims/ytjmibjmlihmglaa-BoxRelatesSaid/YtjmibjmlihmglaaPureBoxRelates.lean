/- BoxRelates, in plain numbers: how a box lies to an area is the document's; no condition. -/
import Derived.Test.YtjmibjmlihmglaaGx14
import Derived.Test.YtjmibjmlihmglaaGx25
import Derived.Test.YtjmibjmlihmglaaArith
import Derived.Test.YtjmibjmlihmglaaWideBase
import Derived.Test.YtjmibjmlihmglaaWide128
import Derived.Test.YtjmibjmlihmglaaWideMul
import Derived.Test.YtjmibjmlihmglaaGeoBase
import Derived.Test.YtjmibjmlihmglaaGeo
import Derived.Test.YtjmibjmlihmglaaPoint
import Derived.Test.YtjmibjmlihmglaaPoly
import Derived.Test.YtjmibjmlihmglaaSide
import Derived.Test.YtjmibjmlihmglaaBoxGeo
import Derived.Test.YtjmibjmlihmglaaBox
import Derived.Test.YtjmibjmlihmglaaStBoxRelates
namespace Go.Proofs.Ytjmibjmlihmglaa.Pure
open Go.RowKit Go.Proofs.Ytjmibjmlihmglaa.G Go.Proofs.Ytjmibjmlihmglaa.Q Go.Proofs.Ytjmibjmlihmglaa.Geo Go.Proofs.YtjmibjmlihmglaaW.PrintWords Go.Proofs.YtjmibjmlihmglaaW.PrintLast Go.Proofs.YtjmibjmlihmglaaW.PrintMore
set_option linter.unusedVariables false

theorem BoxRelates : G.BoxRelates.Pure := by
  intro x l hx hl
  apply ev_some12
  refine Ev.congr (fun k => rfl) (Ev.bind awake12 (Ev.congr (fun k => if_pos rfl) ?_))
  by_cases c : (l.length : Int) > 12
  · rw [decide_eq_true c]
    exact Ev.step (f := fun k => (apogeelaw12_awake.f k).bind fun t => some t) (fun k => by simp only [apogeelaw12_BoxRelates.j0]; rw [if_pos trivial]) (Ev.bind awake12 (Ev.now _))
  · rw [decide_eq_false c]
    refine Ev.step (fun k => by simp only [apogeelaw12_BoxRelates.j0]; rw [if_neg (by decide)]) (Ev.bind (prog_relate l (by omega) _ _ _ _) (Ev.bind (ref_relate l (by omega) _ _ _ _) ?_))
    rw [beq_self_eq_true]; exact Ev.now _

end Go.Proofs.Ytjmibjmlihmglaa.Pure
