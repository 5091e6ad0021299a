/- BoxMeets, in plain numbers: whether a way meets a box is the document's, and the same from the other end; no condition. -/
import Derived.Test.YtjmibjmlihmglaaGx15
import Derived.Test.YtjmibjmlihmglaaGx8
import Derived.Test.YtjmibjmlihmglaaArith
import Derived.Test.YtjmibjmlihmglaaWideBase
import Derived.Test.YtjmibjmlihmglaaWide128
import Derived.Test.YtjmibjmlihmglaaWideMul
import Derived.Test.YtjmibjmlihmglaaGeoBase
import Derived.Test.YtjmibjmlihmglaaGeo
import Derived.Test.YtjmibjmlihmglaaPoint
import Derived.Test.YtjmibjmlihmglaaPoly
import Derived.Test.YtjmibjmlihmglaaSide
import Derived.Test.YtjmibjmlihmglaaBoxGeo
import Derived.Test.YtjmibjmlihmglaaBox
import Derived.Test.YtjmibjmlihmglaaStBoxMeets
namespace Go.Proofs.Ytjmibjmlihmglaa.Pure
open Go.RowKit Go.Proofs.Ytjmibjmlihmglaa.G Go.Proofs.Ytjmibjmlihmglaa.Q Go.Proofs.Ytjmibjmlihmglaa.Geo Go.Proofs.YtjmibjmlihmglaaW.PrintWords Go.Proofs.YtjmibjmlihmglaaW.PrintLast Go.Proofs.YtjmibjmlihmglaaW.PrintMore
set_option linter.unusedVariables false

theorem BoxMeets : G.BoxMeets.Pure := by
  intro x y z hx hy hz
  apply ev_some12
  have m1 := prog_meets x.f0.f0 x.f0.f1 x.f1.f0 x.f1.f1 (pt y) (pt z)
  have m2 := ref_meets x.f0.f0 x.f0.f1 x.f1.f0 x.f1.f1 (pt y) (pt z)
  have m3 := prog_meets x.f0.f0 x.f0.f1 x.f1.f0 x.f1.f1 (pt z) (pt y)
  have e : meetsS x.f0.f0 x.f0.f1 x.f1.f0 x.f1.f1 (pt z) (pt y) = meetsS x.f0.f0 x.f0.f1 x.f1.f0 x.f1.f1 (pt y) (pt z) := by
    unfold meetsS; congr 1; apply decide_eq_decide.mpr
    exact ⟨fun h => ⟨h.2.1, h.1, hit_swap.1 h.2.2⟩, fun h => ⟨h.2.1, h.1, hit_swap.1 h.2.2⟩⟩
  rw [e] at m3
  refine Ev.congr (fun k => rfl) (Ev.bind m1 (Ev.bind awake12 (Ev.congr (fun k => if_pos rfl) (Ev.bind m2 (Ev.congr (fun k => if_pos (beq_self_eq_true _)) (Ev.bind m3 (Ev.congr (fun k => if_pos (beq_self_eq_true _)) ?_)))))))
  refine Ev.congr (f := fun _ => if hasB x.f0.f0 x.f0.f1 x.f1.f0 x.f1.f1 (pt y) = true then (if decide (Ok (pt z)) = true then some (meetsS x.f0.f0 x.f0.f1 x.f1.f0 x.f1.f1 (pt y) (pt z)) else some true) else some true) (fun k => ?_) ?_
  · have h1 : box_Has.f x.f0.f0 x.f0.f1 x.f1.f0 x.f1.f1 y.f0 y.f1 = _ := box_has x.f0.f0 x.f0.f1 x.f1.f0 x.f1.f1 (pt y)
    have h2 : apogeeref10_Right.f z.f0 z.f1 = _ := ref_right_one (pt z)
    rw [h1, h2]; rfl
  · refine ev_ite (fun h1 => ev_ite (fun h2 => ?_) (fun _ => Ev.now _)) (fun _ => Ev.now _)
    have h2' := of_decide_eq_true h2
    unfold hasB at h1
    simp only [Bool.and_eq_true, decide_eq_true_eq] at h1
    have h34 := (rightB_iff.1 h1.1).2
    have : meetsS x.f0.f0 x.f0.f1 x.f1.f0 x.f1.f1 (pt y) (pt z) = true := by
      unfold meetsS; rw [h1.1, decide_eq_true ⟨h1.2.1, h2', (hit_iff h34.1 h34.2).2 (.inl (.inl h1.2.2))⟩]; rfl
    rw [this]; exact Ev.now _

end Go.Proofs.Ytjmibjmlihmglaa.Pure
