/- Boxes: whether a way meets one and how one lies to an area, by the program and by the reference. -/
import Derived.Test.YtfeekdoakoabeaaGx0
import Derived.Test.YtfeekdoakoabeaaGx10
import Derived.Test.YtfeekdoakoabeaaGx13
import Derived.Test.YtfeekdoakoabeaaGx14
import Derived.Test.YtfeekdoakoabeaaGx15
import Derived.Test.YtfeekdoakoabeaaArith
import Derived.Test.YtfeekdoakoabeaaWideBase
import Derived.Test.YtfeekdoakoabeaaWide128
import Derived.Test.YtfeekdoakoabeaaWideMul
import Derived.Test.YtfeekdoakoabeaaGeoBase
import Derived.Test.YtfeekdoakoabeaaGeo
import Derived.Test.YtfeekdoakoabeaaPoint
import Derived.Test.YtfeekdoakoabeaaPoly
import Derived.Test.YtfeekdoakoabeaaSide
import Derived.Test.YtfeekdoakoabeaaBoxGeo
import Derived.Test.YtfeekdoakoabeaaBoxBase
namespace Go.Proofs.Ytfeekdoakoabeaa.Q
open Go.RowKit Go.Proofs.Ytfeekdoakoabeaa.G Go.Proofs.Ytfeekdoakoabeaa.Geo Go.Proofs.YtfeekdoakoabeaaW.PrintWords Go.Proofs.YtfeekdoakoabeaaW.PrintLast Go.Proofs.YtfeekdoakoabeaaW.PrintMore
set_option linter.unusedVariables false
set_option linter.unusedSimpArgs false
abbrev cornersL (a b c d : Int) : List S28 := [⟨a, b⟩, ⟨c, b⟩, ⟨c, d⟩, ⟨a, d⟩]
theorem box_corners {a b c d : Int} (h : rightB a b c d = true) : box_Corners.f a b c d = some (cornersL a b c d) := by
  unfold box_Corners.f; rw [box_right, h]; rfl
def meetsS (a b c d : Int) (p q : Pt) : Bool := rightB a b c d && decide (Ok p ∧ Ok q ∧ Hit a b c d p q)
theorem idx_meets (l : List S28) (hl : l.length ≤ 4611686018427387904) (p q : Pt) (s : Int) (d : Nat) : ∀ i : Nat, i + d = l.length →
    ∃ r : Int, Ev (fun k => box_Meets_2.l0 k l p.x p.y q.x q.y s l.length i) r ∧ decide (r ≥ 0) = !allF d i (fun a => turnS p q (ptAt l a) == s) := by
  induction d with
  | zero =>
    intro i hi
    refine ⟨-1, Ev.step (f := fun _ => some (-1)) (fun k => ?_) (Ev.now _), rfl⟩
    simp only [box_Meets_2.l0]; rw [if_neg (by omega)]
  | succ d ih =>
    intro i hi
    obtain ⟨r, hr, hq⟩ := ih (i + 1) (by omega)
    have e : ∀ k, box_Meets_2.l0 (k + 1) l p.x p.y q.x q.y s l.length i = (point_Turn.f k p.x p.y q.x q.y (ptAt l i).x (ptAt l i).y).bind fun t => (if (t != s) = true then some (i : Int) else box_Meets_2.l0 k l p.x p.y q.x q.y s l.length ((i + 1 : Nat) : Int)) := by
      intro k
      simp only [box_Meets_2.l0]
      rw [if_pos (by omega), if_pos (by omega), if_pos (by omega), w64 (by omega) (by omega)]; rfl
    have h1 := turn_ev p q (ptAt l i)
    simp only [allF]
    cases c : (turnS p q (ptAt l i) == s) with
    | true => exact ⟨r, Ev.step e (Ev.bind h1 (Ev.congr (fun k => if_neg (by unfold bne; rw [c]; decide)) hr)), by rw [hq]; rfl⟩
    | false => exact ⟨i, Ev.step e (Ev.bind h1 (Ev.congr (f := fun _ => some (i : Int)) (fun k => if_pos (by unfold bne; rw [c]; decide)) (Ev.now _))), decide_eq_true (by omega)⟩
theorem corners_ok {a b c d : Int} (h : rightB a b c d = true) : Ok ⟨a, b⟩ ∧ Ok ⟨c, b⟩ ∧ Ok ⟨c, d⟩ ∧ Ok ⟨a, d⟩ := by
  obtain ⟨⟨h1, h2⟩, h3, h4⟩ := rightB_iff.1 h
  unfold Ok at *; simp only at *; omega
theorem sgn_pos (z : Int) : sgn z = 1 ↔ 0 < z := by unfold sgn; (repeat' split) <;> omega
theorem sgn_neg (z : Int) : sgn z = -1 ↔ z < 0 := by unfold sgn; (repeat' split) <;> omega
theorem prog_meets (a b c d : Int) (p q : Pt) : Ev (fun k => box_Meets.f k a b c d p.x p.y q.x q.y) (meetsS a b c d p q) := by
  have no : ∀ {F : Nat → Option Bool}, (∀ k, F k = some false) → meetsS a b c d p q = false → Ev F (meetsS a b c d p q) := fun hF h => by
    rw [h]; exact Ev.congr hF (Ev.now _)
  by_cases hb : rightB a b c d = true
  case neg => exact no (fun k => by unfold box_Meets.f; rw [box_right, Bool.eq_false_iff.mpr hb]; rfl) (by unfold meetsS; rw [Bool.eq_false_iff.mpr hb]; rfl)
  by_cases hp : Ok p
  case neg => exact no (fun k => by unfold box_Meets.f; rw [box_right, hb, point_right_one p, decide_eq_false hp]; rfl) (by unfold meetsS; simp [hp])
  by_cases hq : Ok q
  case neg => exact no (fun k => by unfold box_Meets.f; rw [box_right, hb, point_right_one p, decide_eq_true hp, point_right_one q, decide_eq_false hq]; rfl) (by unfold meetsS; simp [hq])
  have e : meetsS a b c d p q = decide (Hit a b c d p q) := by unfold meetsS; rw [hb]; simp [hp, hq]
  refine Ev.congr (f := fun k => (if (mx p.x q.x) < a then (some false) else (if (mn p.x q.x) > c then (some false) else (if (mx p.y q.y) < b then (some false) else (if (mn p.y q.y) > d then (some false) else
      ((point_Turn.f k p.x p.y q.x q.y a b).bind fun t4 => (if t4 = 0 then (some true) else ((box_Corners.f a b c d).bind fun t5 => (box_Meets_2.any k t5 p.x p.y q.x q.y t4))))))))) (fun k => by unfold box_Meets.f; rw [box_right, hb, point_right_one p, decide_eq_true hp, point_right_one q, decide_eq_true hq]; rfl) ?_
  rw [e, mx_max, mx_max, mn_min, mn_min]
  have out : ¬ Over a b c d p q → decide (Hit a b c d p q) = false := fun h => decide_eq_false (fun k => h k.1)
  refine ev_ite (fun h => ?_) (fun h1 => ev_ite (fun h => ?_) (fun h2 => ev_ite (fun h => ?_) (fun h3 => ev_ite (fun h => ?_) (fun h4 => ?_))))
  · rw [out (by unfold Over; omega)]; exact Ev.now _
  · rw [out (by unfold Over; omega)]; exact Ev.now _
  · rw [out (by unfold Over; omega)]; exact Ev.now _
  · rw [out (by unfold Over; omega)]; exact Ev.now _
  have ho : Over a b c d p q := by unfold Over; omega
  obtain ⟨k1, k2, k3, k4⟩ := corners_ok hb
  refine Ev.bind (turn_ev p q ⟨a, b⟩) ?_
  rw [turnS_ok hp hq k1]
  have sw : ∀ v : Pt, cr q p v = - cr p q v := fun v => cr_swap p q v
  refine ev_ite (fun hz => ?_) (fun hz => ?_)
  · have h0 := (sgn_zero _).1 hz
    have hH : Hit a b c d p q := ⟨ho, fun k => by have := k.1; omega, fun k => by have := k.1; rw [sw] at this; omega⟩
    rw [decide_eq_true hH]; exact Ev.now _
  · refine Ev.congr (f := fun k => box_Meets_2.any k (cornersL a b c d) p.x p.y q.x q.y (sgn (cr p q ⟨a, b⟩))) (fun k => by rw [box_corners hb]; rfl) ?_
    obtain ⟨r, hr, hr2⟩ := idx_meets (cornersL a b c d) (by simp) p q (sgn (cr p q ⟨a, b⟩)) 4 0 rfl
    refine Ev.congr (fun k => rfl) (Ev.bind hr ?_)
    rw [hr2]
    have e4 : allF 4 0 (fun i => turnS p q (ptAt (cornersL a b c d) i) == sgn (cr p q ⟨a, b⟩)) = ((turnS p q ⟨a, b⟩ == sgn (cr p q ⟨a, b⟩)) && ((turnS p q ⟨c, b⟩ == sgn (cr p q ⟨a, b⟩)) && ((turnS p q ⟨c, d⟩ == sgn (cr p q ⟨a, b⟩)) && ((turnS p q ⟨a, d⟩ == sgn (cr p q ⟨a, b⟩)) && true)))) := rfl
    rw [e4, turnS_ok hp hq k1, turnS_ok hp hq k2, turnS_ok hp hq k3, turnS_ok hp hq k4]
    have e5 : (!((sgn (cr p q ⟨a, b⟩) == sgn (cr p q ⟨a, b⟩)) && ((sgn (cr p q ⟨c, b⟩) == sgn (cr p q ⟨a, b⟩)) && ((sgn (cr p q ⟨c, d⟩) == sgn (cr p q ⟨a, b⟩)) && ((sgn (cr p q ⟨a, d⟩) == sgn (cr p q ⟨a, b⟩)) && true))))) = decide (Hit a b c d p q) := by
      rw [Bool.eq_iff_iff]
      simp only [Bool.not_eq_true', Bool.and_true, beq_self_eq_true, Bool.true_and, decide_eq_true_eq, Bool.and_eq_false_iff, beq_eq_false_iff_ne]
      have hh : Hit a b c d p q ↔ ¬ Pos a b c d p q ∧ ¬ Pos a b c d q p := ⟨fun h => h.2, fun h => ⟨ho, h⟩⟩
      rw [hh]; unfold Pos
      rw [sw, sw, sw, sw]
      rcases Int.lt_trichotomy (cr p q ⟨a, b⟩) 0 with h0 | h0 | h0
      · have s0 := (sgn_neg _).2 h0
        rw [s0, ne_eq, ne_eq, ne_eq, sgn_neg, sgn_neg, sgn_neg]; omega
      · exact absurd ((sgn_zero _).2 h0) hz
      · have s0 := (sgn_pos _).2 h0
        rw [s0, ne_eq, ne_eq, ne_eq, sgn_pos, sgn_pos, sgn_pos]; omega
    rw [e5]; exact Ev.now _
def missF (a b c d : Int) (l : List S28) (i : Nat) : Bool := !meetsS a b c d (ptAt l i) (ptAt l (nx l.length i))
def missS (a b c d : Int) (l : List S28) : Bool := allF l.length 0 (missF a b c d l)
def relateS (a b c d : Int) (l : List S28) : Int := if rightB a b c d = true ∧ rightS l = true then (if missS a b c d l = true then sideS l ⟨a, b⟩ else 0) else -1
theorem relate_loop (l : List S28) (hl : l.length ≤ 4611686018427387904) (a b c d : Int) (m : Nat) : ∀ i : Nat, i + m = l.length →
    Ev (fun k => box_Relate.l0 k l l l.length i a b c d) (if allF m i (missF a b c d l) = true then sideS l ⟨a, b⟩ else 0) := by
  induction m with
  | zero =>
    intro i hi
    refine Ev.step (f := fun k => (poly_Side.f k l a b).bind fun t => some t) (fun k => by simp only [box_Relate.l0]; rw [if_neg (by omega)]) ?_
    exact Ev.bind (prog_side l hl ⟨a, b⟩) (Ev.now _)
  | succ m ih =>
    intro i hi
    have hnx := nx_lt (n := l.length) (i := i) (by omega)
    refine Ev.step (f := fun k => (box_Meets.f k a b c d (ptAt l i).x (ptAt l i).y (ptAt l (nx l.length i)).x (ptAt l (nx l.length i)).y).bind fun t => (if t = true then (some 0) else (box_Relate.l0 k l l l.length ((i + 1 : Nat) : Int) a b c d))) (fun k => ?_) ?_
    · simp only [box_Relate.l0]
      rw [if_pos (by omega), if_pos (by omega), if_pos (by omega), if_neg (by omega), nx_idx i l.length (by omega) hl, if_pos (by omega), if_pos (by omega), w64 (by omega) (by omega)]; rfl
    · refine Ev.bind (prog_meets a b c d _ _) (ev_ite (fun h => ?_) (fun h => ?_))
      · rw [show allF (m + 1) i (missF a b c d l) = false by show (missF a b c d l i && _) = false; rw [show missF a b c d l i = false by unfold missF; rw [h]; rfl]; rfl]; exact Ev.now _
      · rw [show allF (m + 1) i (missF a b c d l) = allF m (i + 1) (missF a b c d l) by show (missF a b c d l i && _) = _; rw [show missF a b c d l i = true by unfold missF; rw [Bool.eq_false_iff.mpr h]; rfl]; rfl]; exact ih (i + 1) (by omega)
theorem prog_relate (l : List S28) (hl : l.length ≤ 4611686018427387904) (a b c d : Int) : Ev (fun k => box_Relate.f k a b c d l) (relateS a b c d l) := by
  have hz : Ev (fun k => box_Relate.j0 k l true a b c d) (-1) := Ev.step (f := fun _ => some (-1)) (fun k => by simp only [box_Relate.j0]; rw [if_pos trivial]) (Ev.now _)
  unfold relateS
  by_cases hb : rightB a b c d = true
  case neg => rw [if_neg (fun h => hb h.1)]; exact Ev.congr (fun k => by unfold box_Relate.f; rw [box_right, Bool.eq_false_iff.mpr hb]; rfl) hz
  refine Ev.congr (f := fun k => (poly_Right.f k l).bind fun t => box_Relate.j0 k l (!t) a b c d) (fun k => by unfold box_Relate.f; rw [box_right, hb]; rfl) (Ev.bind (prog_right l hl) ?_)
  by_cases hr : rightS l = true
  · rw [if_pos ⟨hb, hr⟩, hr]
    exact Ev.step (f := fun k => box_Relate.l0 k l l l.length ((0 : Nat) : Int) a b c d) (fun k => by simp only [box_Relate.j0]; rw [if_neg (by decide)]; rfl) (relate_loop l hl a b c d l.length 0 (by omega))
  · rw [if_neg (fun h => hr h.2), Bool.eq_false_iff.mpr hr]; exact hz
end Go.Proofs.Ytfeekdoakoabeaa.Q
