/- PolyWays, in plain numbers: two places whose way meets no edge are on one side; outside the bounds is outside; corners and edges are at the edge. No condition. -/
import Derived.Test.YtjmibjmlihmglaaGx0
import Derived.Test.YtjmibjmlihmglaaGx11
import Derived.Test.YtjmibjmlihmglaaGx12
import Derived.Test.YtjmibjmlihmglaaGx14
import Derived.Test.YtjmibjmlihmglaaGx27
import Derived.Test.YtjmibjmlihmglaaGx8
import Derived.Test.YtjmibjmlihmglaaArith
import Derived.Test.YtjmibjmlihmglaaWideBase
import Derived.Test.YtjmibjmlihmglaaWide128
import Derived.Test.YtjmibjmlihmglaaWideMul
import Derived.Test.YtjmibjmlihmglaaGeoBase
import Derived.Test.YtjmibjmlihmglaaGeo
import Derived.Test.YtjmibjmlihmglaaPoint
import Derived.Test.YtjmibjmlihmglaaPoly
import Derived.Test.YtjmibjmlihmglaaSide
import Derived.Test.YtjmibjmlihmglaaWays
import Derived.Test.YtjmibjmlihmglaaStPolyWays
namespace Go.Proofs.Ytjmibjmlihmglaa.Pure
open Go.RowKit Go.Proofs.Ytjmibjmlihmglaa.G Go.Proofs.Ytjmibjmlihmglaa.Q Go.Proofs.Ytjmibjmlihmglaa.Geo Go.Proofs.YtjmibjmlihmglaaW.PrintWords Go.Proofs.YtjmibjmlihmglaaW.PrintLast Go.Proofs.YtjmibjmlihmglaaW.PrintMore
set_option linter.unusedVariables false

theorem ways_loop (l : List S41) (hl : l.length ≤ 12) (hr : rightS l = true) (p q : Pt) (hp : Ok p) (hq : Ok q) (d : Nat) :
    ∀ (i : Nat) (m : Bool), i + d = l.length → (m = false → ∀ a, a < i → meetS p q (ptAt l a) (ptAt l (nx l.length a)) = false) →
      Ev (fun k => apogeelaw11_PolyWays.l0 k l m l l.length i p.x p.y q.x q.y) true := by
  have hl2 : l.length ≤ 4611686018427387904 := by omega
  induction d with
  | zero =>
    intro i m hi hm
    refine Ev.step (f := fun k => if m = true then (some true) else ((poly_Side.f k l p.x p.y).bind fun t564 => ((poly_Side.f k l q.x q.y).bind fun t565 => (if t564 = t565 then ((poly_Side.f k l p.x p.y).bind fun t566 => (some (t566 != 0))) else (none))))) (fun k => ?_) (ev_ite (fun c => Ev.now _) (fun c => ?_))
    · simp only [apogeelaw11_PolyWays.l0]; rw [if_neg (by omega)]
    · have h := sides_alike l hr p q hp hq (fun a ha => hm (Bool.eq_false_iff.mpr c) a (by omega))
      refine Ev.bind (prog_side l hl2 p) (Ev.bind (prog_side l hl2 q) (Ev.congr (fun k => if_pos h.1) (Ev.bind (prog_side l hl2 p) ?_)))
      rw [show (sideS l p != 0) = true from bne_iff_ne.mpr h.2]; exact Ev.now _
  | succ d ih =>
    intro i m hi hm
    have hlt : i < l.length := by omega
    have hn := nx_lt (n := l.length) (i := i) (by omega)
    have X : Ev (fun k => if m = true then (apogeelaw11_PolyWays.l0 k l true l l.length ((i + 1 : Nat) : Int) p.x p.y q.x q.y) else ((point_Meet.f k p.x p.y q.x q.y (ptAt l i).x (ptAt l i).y (ptAt l (nx l.length i)).x (ptAt l (nx l.length i)).y).bind fun t => (apogeelaw11_PolyWays.l0 k l t l l.length ((i + 1 : Nat) : Int) p.x p.y q.x q.y))) true := by
      refine ev_ite (fun c => ih (i + 1) true (by omega) (fun h => by cases h)) (fun c => Ev.bind (meet_ev p q _ _) (ih (i + 1) _ (by omega) (fun h a ha => ?_)))
      by_cases e : a = i
      · rw [e]; exact h
      · exact hm (Bool.eq_false_iff.mpr c) a (by omega)
    refine Ev.step (f := fun k => (poly_Side.f k l (ptAt l i).x (ptAt l i).y).bind fun t571 => (if t571 = 0 then ((point_On.f k p.x p.y (ptAt l i).x (ptAt l i).y (ptAt l (nx l.length i)).x (ptAt l (nx l.length i)).y).bind fun t572 => (if t572 = true then ((poly_Side.f k l p.x p.y).bind fun t573 => (if t573 = 0 then (if m = true then (apogeelaw11_PolyWays.l0 k l true l l.length ((i + 1 : Nat) : Int) p.x p.y q.x q.y) else ((point_Meet.f k p.x p.y q.x q.y (ptAt l i).x (ptAt l i).y (ptAt l (nx l.length i)).x (ptAt l (nx l.length i)).y).bind fun t => (apogeelaw11_PolyWays.l0 k l t l l.length ((i + 1 : Nat) : Int) p.x p.y q.x q.y))) else (none)))
        else (if m = true then (apogeelaw11_PolyWays.l0 k l true l l.length ((i + 1 : Nat) : Int) p.x p.y q.x q.y) else ((point_Meet.f k p.x p.y q.x q.y (ptAt l i).x (ptAt l i).y (ptAt l (nx l.length i)).x (ptAt l (nx l.length i)).y).bind fun t => (apogeelaw11_PolyWays.l0 k l t l l.length ((i + 1 : Nat) : Int) p.x p.y q.x q.y))))) else (none))) (fun k => ?_) ?_
    · simp only [apogeelaw11_PolyWays.l0]
      rw [if_pos (by omega), if_pos (by omega), if_pos (by omega), if_neg (by omega), nx_idx i l.length hlt hl2, if_pos (by omega), if_pos (by omega), w64 (by omega) (by omega)]; rfl
    · refine Ev.bind (prog_side l hl2 (ptAt l i)) (Ev.congr (fun k => if_pos (corner_side l hr i hlt)) (Ev.bind (on_ev p _ _) (ev_ite (fun c => ?_) (fun c => X))))
      exact Ev.bind (prog_side l hl2 p) (Ev.congr (fun k => if_pos (side_on l p hr hp ⟨i, hlt, c⟩)) X)

theorem PolyWays : G.PolyWays.Pure := by
  intro l x y _ _ _
  apply ev_some11
  have no : Ev (fun k => apogeelaw11_PolyWays.j0 k l true x.f0 x.f1 y.f0 y.f1) true :=
    Ev.step (f := fun k => (apogeelaw11_awake.f k).bind fun t => (some t)) (fun k => by simp only [apogeelaw11_PolyWays.j0]; rw [if_pos trivial]) (Ev.bind awake11 (Ev.now _))
  refine Ev.congr (fun k => rfl) (Ev.bind awake11 (Ev.congr (fun k => if_pos rfl) (Ev.bind (a := decide (l.length ≤ 12)) (Ev.congr (fun k => few11 l) (Ev.now _)) (ev_ite (fun h12 => ?_) (fun _ => no)))))
  have h12' : l.length ≤ 12 := of_decide_eq_true h12
  have hl2 : l.length ≤ 4611686018427387904 := by omega
  refine Ev.bind (ref_right l hl2) (ev_ite (fun hr => ?_) (fun _ => no))
  refine Ev.bind (a := decide (Ok (pt x))) (Ev.congr (fun k => ref_right_one (pt x)) (Ev.now _)) (ev_ite (fun hp => ?_) (fun _ => no))
  refine Ev.bind (a := decide (Ok (pt y))) (Ev.congr (fun k => ref_right_one (pt y)) (Ev.now _)) ?_
  by_cases hq : Ok (pt y)
  case neg => rw [decide_eq_false hq]; exact no
  rw [decide_eq_true hq]
  have hp' := of_decide_eq_true hp
  have L := ways_loop l h12' hr (pt x) (pt y) hp' hq l.length 0 false (by omega) (fun _ a ha => by omega)
  have J : Ev (fun k => apogeelaw11_PolyWays.j1 k l false x.f0 x.f1 y.f0 y.f1) true :=
    Ev.step (f := fun k => apogeelaw11_PolyWays.l0 k l false l l.length ((0 : Nat) : Int) x.f0 x.f1 y.f0 y.f1) (fun k => by simp only [apogeelaw11_PolyWays.j1]; rw [if_neg (by decide)]; rfl) L
  have O : (x.f0 < (boundsS l).1 ∨ x.f0 > (boundsS l).2.2.1 ∨ x.f1 < (boundsS l).2.1 ∨ x.f1 > (boundsS l).2.2.2) → Ev (fun k => (poly_Side.f k l x.f0 x.f1).bind fun t => (apogeelaw11_PolyWays.j1 k l (t != (-1)) x.f0 x.f1 y.f0 y.f1)) true := fun h => by
    have h1 := prog_side l hl2 (pt x)
    rw [out_side l hr (pt x) hp' h] at h1
    exact Ev.bind h1 J
  refine Ev.step (f := fun k => (poly_Bounds.f k l).bind fun bt554 => (if x.f0 < bt554.1 then ((poly_Side.f k l x.f0 x.f1).bind fun t560 => (apogeelaw11_PolyWays.j1 k l (t560 != (-1)) x.f0 x.f1 y.f0 y.f1)) else (if x.f0 > bt554.2.2.1 then ((poly_Side.f k l x.f0 x.f1).bind fun t561 => (apogeelaw11_PolyWays.j1 k l (t561 != (-1)) x.f0 x.f1 y.f0 y.f1)) else (if x.f1 < bt554.2.1 then ((poly_Side.f k l x.f0 x.f1).bind fun t562 => (apogeelaw11_PolyWays.j1 k l (t562 != (-1)) x.f0 x.f1 y.f0 y.f1)) else (if x.f1 > bt554.2.2.2.1 then ((poly_Side.f k l x.f0 x.f1).bind fun t563 => (apogeelaw11_PolyWays.j1 k l (t563 != (-1)) x.f0 x.f1 y.f0 y.f1)) else (apogeelaw11_PolyWays.j1 k l false x.f0 x.f1 y.f0 y.f1))))))
    (fun k => by simp only [apogeelaw11_PolyWays.j0]; rw [if_neg (by decide)]) (Ev.bind (prog_bounds l hl2 hr) (ev_ite (fun c => O (.inl c)) (fun _ => ev_ite (fun c => O (.inr (.inl c))) (fun _ => ev_ite (fun c => O (.inr (.inr (.inl c)))) (fun _ => ev_ite (fun c => O (.inr (.inr (.inr c)))) (fun _ => J))))))

end Go.Proofs.Ytjmibjmlihmglaa.Pure
