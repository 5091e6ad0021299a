/- BoxStays, in plain numbers: a box within one that is inside, or outside, an area is so, too, and so are its places; no condition. -/
import Derived.Test.YtjmibjmlihmglaaGx12
import Derived.Test.YtjmibjmlihmglaaGx13
import Derived.Test.YtjmibjmlihmglaaGx14
import Derived.Test.YtjmibjmlihmglaaGx26
import Derived.Test.YtjmibjmlihmglaaGx8
import Derived.Test.YtjmibjmlihmglaaArith
import Derived.Test.YtjmibjmlihmglaaWideBase
import Derived.Test.YtjmibjmlihmglaaWide128
import Derived.Test.YtjmibjmlihmglaaWideMul
import Derived.Test.YtjmibjmlihmglaaGeoBase
import Derived.Test.YtjmibjmlihmglaaGeo
import Derived.Test.YtjmibjmlihmglaaPoint
import Derived.Test.YtjmibjmlihmglaaPoly
import Derived.Test.YtjmibjmlihmglaaSide
import Derived.Test.YtjmibjmlihmglaaBoxGeo
import Derived.Test.YtjmibjmlihmglaaBox
import Derived.Test.YtjmibjmlihmglaaBoxIn
import Derived.Test.YtjmibjmlihmglaaStBoxStays
namespace Go.Proofs.Ytjmibjmlihmglaa.Pure
open Go.RowKit Go.Proofs.Ytjmibjmlihmglaa.G Go.Proofs.Ytjmibjmlihmglaa.Q Go.Proofs.Ytjmibjmlihmglaa.Geo Go.Proofs.YtjmibjmlihmglaaW.PrintWords Go.Proofs.YtjmibjmlihmglaaW.PrintLast Go.Proofs.YtjmibjmlihmglaaW.PrintMore
set_option linter.unusedVariables false

def holdP (a b c d : Int) (p : Pt) : Pt := ⟨min (max p.x a) c, min (max p.y b) d⟩
theorem hold_plain (a b c d : Int) (p : Pt) : apogeelaw12_BoxStays_1.f p.x p.y a b c d = some ((holdP a b c d p).x, (holdP a b c d p).y) := by
  unfold apogeelaw12_BoxStays_1.f holdP; simp only [mx_max, mn_min]
theorem hold_in (a b c d : Int) (hac : a ≤ c) (hbd : b ≤ d) (p : Pt) : InB a b c d (holdP a b c d p) := by unfold InB holdP; simp only; omega
theorem in_plain (a b c d a' b' c' d' : Int) : box_In.f a' b' c' d' a b c d = some (rightB a' b' c' d' && (hasB a b c d ⟨a', b'⟩ && hasB a b c d ⟨c', d'⟩)) := by
  have h1 : box_Has.f a b c d a' b' = _ := box_has a b c d ⟨a', b'⟩
  have h2 : box_Has.f a b c d c' d' = _ := box_has a b c d ⟨c', d'⟩
  unfold box_In.f
  rw [box_right, h1, h2]
  cases rightB a' b' c' d' <;> cases hasB a b c d ⟨a', b'⟩ <;> cases hasB a b c d ⟨c', d'⟩ <;> rfl

theorem BoxStays : G.BoxStays.Pure := by
  intro x l y z hx hl hy hz
  apply ev_some12
  have no : Ev (fun k => apogeelaw12_BoxStays.j0 k l true x.f0.f0 x.f0.f1 x.f1.f0 x.f1.f1 y.f0 y.f1 z.f0 z.f1) true :=
    Ev.step (f := fun k => (apogeelaw12_awake.f k).bind fun t => some t) (fun k => by simp only [apogeelaw12_BoxStays.j0]; rw [if_pos trivial]) (Ev.bind awake12 (Ev.now _))
  refine Ev.congr (fun k => rfl) (Ev.bind awake12 (Ev.congr (fun k => if_pos rfl) (ev_ite (fun _ => no) (fun c => Ev.bind (ref_right l (by omega)) ?_))))
  refine ev_ite (fun hr => ?_) (fun _ => no)
  generalize x.f0.f0 = a at *; generalize x.f0.f1 = b at *; generalize x.f1.f0 = c' at *; generalize x.f1.f1 = d at *
  refine Ev.congr (f := fun k => apogeelaw12_BoxStays.j0 k l (!rightB a b c' d) a b c' d y.f0 y.f1 z.f0 z.f1) (fun k => by rw [ref_box_right]; rfl) ?_
  by_cases hb : rightB a b c' d = true
  case neg => rw [Bool.eq_false_iff.mpr hb]; exact no
  rw [hb]
  have h34 := (rightB_iff.1 hb).2
  have hy1 : apogeelaw12_BoxStays_1.f y.f0 y.f1 a b c' d = _ := hold_plain a b c' d (pt y)
  have hz1 : apogeelaw12_BoxStays_1.f z.f0 z.f1 a b c' d = _ := hold_plain a b c' d (pt z)
  have iy := hold_in a b c' d h34.1 h34.2 (pt y)
  have iz := hold_in a b c' d h34.1 h34.2 (pt z)
  generalize holdP a b c' d (pt y) = P at *
  generalize holdP a b c' d (pt z) = Q at *
  have oP := in_ok hb iy
  have oQ := in_ok hb iz
  have i1 : InB a b c' d ⟨min P.x Q.x, min P.y Q.y⟩ := by unfold InB at *; simp only; omega
  have i2 : InB a b c' d ⟨max P.x Q.x, max P.y Q.y⟩ := by unfold InB at *; simp only; omega
  have hs : rightB (min P.x Q.x) (min P.y Q.y) (max P.x Q.x) (max P.y Q.y) = true := rightB_iff.2 ⟨⟨in_ok hb i1, in_ok hb i2⟩, by omega, by omega⟩
  have hin : box_In.f (min P.x Q.x) (min P.y Q.y) (max P.x Q.x) (max P.y Q.y) a b c' d = some true := by
    rw [in_plain, hs]; unfold hasB; rw [hb, decide_eq_true ⟨in_ok hb i1, i1⟩, decide_eq_true ⟨in_ok hb i2, i2⟩]; rfl
  have R0 := prog_relate l (by omega) a b c' d
  refine Ev.step (f := fun k => (box_Relate.f k a b c' d l).bind fun t592 => (if t592 = 0 then (some true) else ((box_Relate.f k (min P.x Q.x) (min P.y Q.y) (max P.x Q.x) (max P.y Q.y) l).bind fun t599 => (if t599 = t592 then ((poly_Side.f k l P.x P.y).bind fun t600 => (if t600 = t592 then ((poly_Side.f k l Q.x Q.y).bind fun t601 => (some (t601 == t592))) else (none))) else (none))))) (fun k => ?_) (Ev.bind R0 ?_)
  · simp only [apogeelaw12_BoxStays.j0]
    rw [if_neg (by decide), hy1, hz1]
    simp only [Option.bind_some, mn_min, mx_max]
    rw [hin]; rfl
  · refine ev_ite (fun _ => Ev.now _) (fun hne => ?_)
    have hm : missS a b c' d l = true := by
      unfold relateS at hne; rw [if_pos ⟨hb, hr⟩] at hne
      cases h : missS a b c' d l with
      | true => rfl
      | false => rw [h] at hne; exact absurd rfl hne
    have e0 : relateS a b c' d l = sideS l ⟨a, b⟩ := by unfold relateS; rw [if_pos ⟨hb, hr⟩, if_pos hm]
    have e1 : relateS (min P.x Q.x) (min P.y Q.y) (max P.x Q.x) (max P.y Q.y) l = relateS a b c' d l := by
      rw [e0]; unfold relateS; rw [if_pos ⟨hs, hr⟩, if_pos (miss_in hb hs hr hm i1 i2)]; exact in_side hb hr hm i1
    have R1 := prog_relate l (by omega) (min P.x Q.x) (min P.y Q.y) (max P.x Q.x) (max P.y Q.y)
    rw [e1] at R1
    have S1 := prog_side l (by omega) P
    have S2 := prog_side l (by omega) Q
    rw [in_side hb hr hm iy, ← e0] at S1
    rw [in_side hb hr hm iz, ← e0] at S2
    refine Ev.bind R1 (Ev.congr (fun k => if_pos rfl) (Ev.bind S1 (Ev.congr (fun k => if_pos rfl) (Ev.bind S2 ?_))))
    rw [beq_self_eq_true]; exact Ev.now _

end Go.Proofs.Ytjmibjmlihmglaa.Pure
