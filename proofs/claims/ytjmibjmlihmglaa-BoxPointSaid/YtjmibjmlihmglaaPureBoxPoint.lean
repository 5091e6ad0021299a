/- BoxPoint, in plain numbers: a box of one place lies to an area as that place does; no condition. -/
import Derived.Test.YtjmibjmlihmglaaGx0
import Derived.Test.YtjmibjmlihmglaaGx12
import Derived.Test.YtjmibjmlihmglaaGx13
import Derived.Test.YtjmibjmlihmglaaGx14
import Derived.Test.YtjmibjmlihmglaaGx15
import Derived.Test.YtjmibjmlihmglaaGx27
import Derived.Test.YtjmibjmlihmglaaGx8
import Derived.Test.YtjmibjmlihmglaaArith
import Derived.Test.YtjmibjmlihmglaaWideBase
import Derived.Test.YtjmibjmlihmglaaWide128
import Derived.Test.YtjmibjmlihmglaaWideMul
import Derived.Test.YtjmibjmlihmglaaGeoBase
import Derived.Test.YtjmibjmlihmglaaGeo
import Derived.Test.YtjmibjmlihmglaaPoint
import Derived.Test.YtjmibjmlihmglaaPoly
import Derived.Test.YtjmibjmlihmglaaSide
import Derived.Test.YtjmibjmlihmglaaBoxGeo
import Derived.Test.YtjmibjmlihmglaaBox
import Derived.Test.YtjmibjmlihmglaaStBoxPoint
namespace Go.Proofs.Ytjmibjmlihmglaa.Pure
open Go.RowKit Go.Proofs.Ytjmibjmlihmglaa.G Go.Proofs.Ytjmibjmlihmglaa.Q Go.Proofs.Ytjmibjmlihmglaa.Geo Go.Proofs.YtjmibjmlihmglaaW.PrintWords Go.Proofs.YtjmibjmlihmglaaW.PrintLast Go.Proofs.YtjmibjmlihmglaaW.PrintMore
set_option linter.unusedVariables false

theorem clamp_in (n lo hi : Int) (h1 : lo ≤ n) (h2 : n ≤ hi) : fix_Clamp.f n lo hi = some n := by
  unfold fix_Clamp.f; rw [if_neg (by omega), if_neg (by omega)]
theorem of_zero (p : Pt) (hp : Ok p) : box_Of.f p.x p.y 0 = some (p.x, p.y, p.x, p.y) := by
  have h := hp
  unfold Ok at h
  unfold box_Of.f box_Of_1.f
  rw [point_right_one p, decide_eq_true hp, clamp_in 0 0 4398046511104 (by omega) (by omega)]
  simp only [Option.bind_some, if_true, Int.sub_zero, Int.add_zero]
  rw [w64 (x := p.x) (by omega) (by omega), w64 (x := p.y) (by omega) (by omega), clamp_in p.x _ _ (by omega) (by omega), clamp_in p.y _ _ (by omega) (by omega)]
  rfl

theorem relate_point (l : List S41) (p : Pt) (hr : rightS l = true) (hp : Ok p) : relateS p.x p.y p.x p.y l = sideS l p := by
  have hb : rightB p.x p.y p.x p.y = true := rightB_iff.2 ⟨⟨hp, hp⟩, Int.le_refl _, Int.le_refl _⟩
  have hok := simple_ok (right_simple hr)
  have hn : 0 < l.length := by have := simple_len (right_simple hr); omega
  have key : ∀ i, i < l.length → missF p.x p.y p.x p.y l i = !onAt l p i := by
    intro i hi
    have k1 := right_okAt hok i hi
    have k2 := right_okAt hok (nx l.length i) (nx_lt hn)
    unfold missF onAt
    rw [onS_ok hp k1 k2]
    unfold meetsS
    rw [hb, Bool.true_and]
    congr 1
    apply decide_eq_decide.mpr
    exact ⟨fun h => hit_one.1 h.2.2, fun h => ⟨k1, k2, hit_one.2 h⟩⟩
  unfold relateS
  rw [if_pos ⟨hb, hr⟩]
  by_cases c : missS p.x p.y p.x p.y l = true
  · rw [if_pos c]
  · rw [if_neg c]
    symm
    apply side_on l p hr hp
    apply Classical.byContradiction
    intro hno
    apply c
    unfold missS
    rw [allF_iff]
    intro i _ h2
    rw [key i (by omega)]
    cases h : onAt l p i with
    | false => rfl
    | true => exact absurd ⟨i, by omega, h⟩ hno

theorem BoxPoint : G.BoxPoint.Pure := by
  intro l y hl hy
  apply ev_some12
  have no : Ev (fun k => apogeelaw12_BoxPoint.j0 k l true y.f0 y.f1) true :=
    Ev.step (f := fun k => (apogeelaw12_awake.f k).bind fun t => some t) (fun k => by simp only [apogeelaw12_BoxPoint.j0]; rw [if_pos trivial]) (Ev.bind awake12 (Ev.now _))
  refine Ev.congr (fun k => rfl) (Ev.bind awake12 (Ev.congr (fun k => if_pos rfl) (ev_ite (fun _ => no) (fun c => Ev.bind (ref_right l (by omega)) ?_))))
  have h2 : apogeeref10_Right.f y.f0 y.f1 = _ := ref_right_one (pt y)
  refine ev_ite (fun hr => ?_) (fun _ => no)
  refine Ev.congr (f := fun k => apogeelaw12_BoxPoint.j0 k l (!decide (Ok (pt y))) y.f0 y.f1) (fun k => by rw [h2]; rfl) ?_
  by_cases hp : Ok (pt y)
  case neg => rw [decide_eq_false hp]; exact no
  rw [decide_eq_true hp]
  have r1 := prog_relate l (by omega) (pt y).x (pt y).y (pt y).x (pt y).y
  have s1 := prog_side l (by omega) (pt y)
  rw [relate_point l (pt y) hr hp] at r1
  refine Ev.step (f := fun k => (box_Relate.f k (pt y).x (pt y).y (pt y).x (pt y).y l).bind fun t596 => ((poly_Side.f k l (pt y).x (pt y).y).bind fun t597 => (if t596 = t597 then ((box_Of.f y.f0 y.f1 0).bind fun bt598 => ((box_Relate.f k bt598.1 bt598.2.1 bt598.2.2.1 bt598.2.2.2 l).bind fun t602 => ((poly_Side.f k l y.f0 y.f1).bind fun t603 => (some (t602 == t603))))) else (none)))) (fun k => by simp only [apogeelaw12_BoxPoint.j0]; rw [if_neg (by decide)]; rfl) (Ev.bind r1 (Ev.bind s1 (Ev.congr (fun k => if_pos rfl) ?_)))
  refine Ev.congr (f := fun k => (box_Relate.f k (pt y).x (pt y).y (pt y).x (pt y).y l).bind fun t602 => ((poly_Side.f k l y.f0 y.f1).bind fun t603 => (some (t602 == t603)))) (fun k => ?_) (Ev.bind r1 (Ev.bind s1 ?_))
  · have h0 : box_Of.f y.f0 y.f1 0 = _ := of_zero (pt y) hp
    rw [h0]; rfl
  · rw [beq_self_eq_true]; exact Ev.now _

end Go.Proofs.Ytjmibjmlihmglaa.Pure
