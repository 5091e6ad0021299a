/- PolyDown, in plain numbers: bounds are met on all four sides by corners and are not flat; no corner is outside. No condition. -/
import Derived.Test.YtjmibjmlihmglaaGx0
import Derived.Test.YtjmibjmlihmglaaGx11
import Derived.Test.YtjmibjmlihmglaaGx12
import Derived.Test.YtjmibjmlihmglaaGx14
import Derived.Test.YtjmibjmlihmglaaGx28
import Derived.Test.YtjmibjmlihmglaaArith
import Derived.Test.YtjmibjmlihmglaaWideBase
import Derived.Test.YtjmibjmlihmglaaWide128
import Derived.Test.YtjmibjmlihmglaaWideMul
import Derived.Test.YtjmibjmlihmglaaGeoBase
import Derived.Test.YtjmibjmlihmglaaGeo
import Derived.Test.YtjmibjmlihmglaaPoint
import Derived.Test.YtjmibjmlihmglaaPoly
import Derived.Test.YtjmibjmlihmglaaSide
import Derived.Test.YtjmibjmlihmglaaWays
import Derived.Test.YtjmibjmlihmglaaStPolyDown
namespace Go.Proofs.Ytjmibjmlihmglaa.Pure
open Go.RowKit Go.Proofs.Ytjmibjmlihmglaa.G Go.Proofs.Ytjmibjmlihmglaa.Q Go.Proofs.Ytjmibjmlihmglaa.Geo Go.Proofs.YtjmibjmlihmglaaW.PrintWords Go.Proofs.YtjmibjmlihmglaaW.PrintLast Go.Proofs.YtjmibjmlihmglaaW.PrintMore
set_option linter.unusedVariables false
set_option linter.unusedSimpArgs false

theorem pair_of {l : List S41} (h : simpleS l = true) (a b : Nat) (hab : a < b) (hb : b < l.length) : apartB l a b = true := by
  unfold simpleS at h
  simp only [Bool.and_eq_true] at h
  have := (allF_iff _ _ _).1 ((allF_iff _ _ _).1 h.2.2.2 b (by omega) (by omega)) a (by omega) (by omega)
  unfold pairB at this
  exact (Bool.and_eq_true _ _ ▸ this).2

/-- three corners in a row: neither end is on the other edge -/
theorem adj (l : List S41) (h : simpleS l = true) (m : Nat) (hm : m < l.length) :
    ∃ pr, pr < l.length ∧ onS (ptAt l (nx l.length m)) (ptAt l pr) (ptAt l m) = false ∧ onS (ptAt l pr) (ptAt l m) (ptAt l (nx l.length m)) = false := by
  have h3 := simple_len h
  by_cases c : m = 0
  · subst c
    refine ⟨l.length - 1, by omega, ?_⟩
    have e := pair_of h 0 (l.length - 1) (by omega) (by omega)
    have n2 : nx l.length (l.length - 1) = 0 := by unfold nx; rw [show l.length - 1 + 1 = l.length by omega]; exact Nat.mod_self _
    unfold apartB at e
    rw [if_neg (by omega), if_pos ⟨rfl, by omega⟩, n2] at e
    simp only [Bool.and_eq_true, Bool.not_eq_true'] at e
    exact ⟨e.2, e.1⟩
  · refine ⟨m - 1, by omega, ?_⟩
    have e := pair_of h (m - 1) m (by omega) hm
    have n1 : nx l.length (m - 1) = m := by unfold nx; rw [show m - 1 + 1 = m by omega]; exact Nat.mod_eq_of_lt hm
    unfold apartB at e
    rw [if_pos (by omega), n1] at e
    simp only [Bool.and_eq_true, Bool.not_eq_true'] at e
    exact e

theorem flat_x {p a b : Pt} (h1 : a.x = p.x) (h2 : b.x = p.x) (h : (a.y ≤ p.y ∧ p.y ≤ b.y) ∨ (b.y ≤ p.y ∧ p.y ≤ a.y)) : On p a b := by
  unfold On cr
  refine ⟨?_, by omega, by omega, by omega, by omega⟩
  rw [show b.x - a.x = 0 by omega, show p.x - a.x = 0 by omega, Int.zero_mul, Int.mul_zero]; rfl
theorem flat_y {p a b : Pt} (h1 : a.y = p.y) (h2 : b.y = p.y) (h : (a.x ≤ p.x ∧ p.x ≤ b.x) ∨ (b.x ≤ p.x ∧ p.x ≤ a.x)) : On p a b := by
  unfold On cr
  refine ⟨?_, by omega, by omega, by omega, by omega⟩
  rw [show b.y - a.y = 0 by omega, show p.y - a.y = 0 by omega, Int.zero_mul, Int.mul_zero]; rfl

theorem wide_box (l : List S41) (hr : rightS l = true) : (boundsS l).1 < (boundsS l).2.2.1 ∧ (boundsS l).2.1 < (boundsS l).2.2.2 := by
  have hs := right_simple hr
  have h3 := simple_len hs
  have hok := simple_ok hs
  have hin := bounds_in l
  obtain ⟨⟨i1, g1, e1⟩, ⟨i2, g2, e2⟩, ⟨i3, g3, e3⟩, ⟨i4, g4, e4⟩⟩ := bounds_met l (by omega)
  have no : ∀ {p a b : Pt}, Ok p → Ok a → Ok b → onS p a b = false → ¬ On p a b := fun hp ha hb e h => by
    unfold onS at e; exact (of_decide_eq_false e) ⟨ha, hb, hp, h⟩
  constructor
  · apply Int.not_le.mp
    intro hle
    have hx : ∀ i, i < l.length → (ptAt l i).x = (boundsS l).1 := fun i hi => by have := hin i hi; omega
    obtain ⟨pr, hpr, o1, o2⟩ := adj l hs i4 g4
    have hn := nx_lt (n := l.length) (i := i4) (by omega)
    have k1 := no (right_okAt hok _ hn) (right_okAt hok _ hpr) (right_okAt hok _ g4) o1
    have k2 := no (right_okAt hok _ hpr) (right_okAt hok _ g4) (right_okAt hok _ hn) o2
    have b1 := hin pr hpr
    have b2 := hin _ hn
    by_cases c : (ptAt l pr).y ≤ (ptAt l (nx l.length i4)).y
    · exact k1 (flat_x (by rw [hx _ hpr, hx _ hn]) (by rw [hx _ g4, hx _ hn]) (.inl ⟨c, by omega⟩))
    · exact k2 (flat_x (by rw [hx _ g4, hx _ hpr]) (by rw [hx _ hn, hx _ hpr]) (.inr ⟨by omega, by omega⟩))
  · apply Int.not_le.mp
    intro hle
    have hy : ∀ i, i < l.length → (ptAt l i).y = (boundsS l).2.1 := fun i hi => by have := hin i hi; omega
    obtain ⟨pr, hpr, o1, o2⟩ := adj l hs i3 g3
    have hn := nx_lt (n := l.length) (i := i3) (by omega)
    have k1 := no (right_okAt hok _ hn) (right_okAt hok _ hpr) (right_okAt hok _ g3) o1
    have k2 := no (right_okAt hok _ hpr) (right_okAt hok _ g3) (right_okAt hok _ hn) o2
    have b1 := hin pr hpr
    have b2 := hin _ hn
    by_cases c : (ptAt l pr).x ≤ (ptAt l (nx l.length i3)).x
    · exact k1 (flat_y (by rw [hy _ hpr, hy _ hn]) (by rw [hy _ g3, hy _ hn]) (.inl ⟨c, by omega⟩))
    · exact k2 (flat_y (by rw [hy _ g3, hy _ hpr]) (by rw [hy _ hn, hy _ hpr]) (.inr ⟨by omega, by omega⟩))

set_option maxHeartbeats 4000000 in
theorem down_loop (l : List S41) (hl : l.length ≤ 12) (hr : rightS l = true) (A B C E : Int)
    (hin : ∀ i, i < l.length → A ≤ (ptAt l i).x ∧ B ≤ (ptAt l i).y ∧ (ptAt l i).x ≤ C ∧ (ptAt l i).y ≤ E) (hAC : A < C) (hBE : B < E) (d : Nat) :
    ∀ (i : Nat) (m0 m1 m2 m3 : Bool), i + d = l.length → (m0 = true ∨ ∃ a, i ≤ a ∧ a < l.length ∧ A = (ptAt l a).x) → (m1 = true ∨ ∃ a, i ≤ a ∧ a < l.length ∧ C = (ptAt l a).x) → (m2 = true ∨ ∃ a, i ≤ a ∧ a < l.length ∧ B = (ptAt l a).y) → (m3 = true ∨ ∃ a, i ≤ a ∧ a < l.length ∧ E = (ptAt l a).y) →
      Ev (fun k => apogeelaw11_PolyDown.l0 k l true l l.length i A B C E m0 m1 m2 m3) true := by
  have hl2 : l.length ≤ 4611686018427387904 := by omega
  induction d with
  | zero =>
    intro i m0 m1 m2 m3 hi
    have hnl : ¬ ((i : Int) < (l.length : Int)) := by omega
    have hge : l.length ≤ i := by omega
    intro h0 h1 h2 h3
    have t : ∀ {m : Bool} {P : Nat → Prop}, (m = true ∨ ∃ a, i ≤ a ∧ a < l.length ∧ P a) → m = true := fun h => by
      rcases h with h | ⟨a, g1, g2, _⟩
      · exact h
      · exact absurd g2 (Nat.not_lt.mpr (Nat.le_trans hge g1))
    obtain rfl := t h0
    obtain rfl := t h1
    obtain rfl := t h2
    obtain rfl := t h3
    refine Ev.step (f := fun _ => some true) (fun k => ?_) (Ev.now _)
    simp only [apogeelaw11_PolyDown.l0]
    rw [if_neg hnl, if_pos trivial, if_pos (by decide), if_pos hAC, decide_eq_true hBE]
  | succ d ih =>
    intro i m0 m1 m2 m3 hi
    have hlt : i < l.length := by omega
    have hi1 : i + 1 + d = l.length := by omega
    have ew : wrap64 ((i : Int) + 1) = ((i + 1 : Nat) : Int) := w64 (by omega) (by omega)
    have q1 : (i : Int) < (l.length : Int) := Int.ofNat_lt.mpr hlt
    have q2 : 0 ≤ (i : Int) := Int.natCast_nonneg i
    intro h0 h1 h2 h3
    obtain ⟨b1, b2, b3, b4⟩ := hin i hlt
    have s : ∀ {m : Bool} {u : Int} {v : Nat → Int}, (m = true ∨ ∃ a, i ≤ a ∧ a < l.length ∧ u = v a) → ((m || (v i == u)) = true ∨ ∃ a, i + 1 ≤ a ∧ a < l.length ∧ u = v a) := fun h => by
      rcases h with h | ⟨a, g1, g2, g3⟩
      · exact .inl (by rw [h]; rfl)
      · by_cases e : a = i
        · subst e; exact .inl (by rw [g3]; simp)
        · exact .inr ⟨a, Nat.lt_of_le_of_ne g1 (Ne.symm e), g2, g3⟩
    have IH := ih (i + 1) (m0 || ((ptAt l i).x == A)) (m1 || ((ptAt l i).x == C)) (m2 || ((ptAt l i).y == B)) (m3 || ((ptAt l i).y == E)) hi1 (s (v := fun a => (ptAt l a).x) h0) (s (v := fun a => (ptAt l a).x) h1) (s (v := fun a => (ptAt l a).y) h2) (s (v := fun a => (ptAt l a).y) h3)
    have c1 : ¬ (rd_T41 l (i : Int)).f0 < A := Int.not_lt.mpr b1
    have c2 : ¬ (rd_T41 l (i : Int)).f0 > C := Int.not_lt.mpr b3
    have c3 : ¬ (rd_T41 l (i : Int)).f1 < B := Int.not_lt.mpr b2
    have c4 : ¬ (rd_T41 l (i : Int)).f1 > E := Int.not_lt.mpr b4
    refine Ev.step (f := fun k => (poly_Side.f k l (ptAt l i).x (ptAt l i).y).bind fun t => (if t < 0 then (none) else (apogeelaw11_PolyDown.l0 k l true l l.length ((i + 1 : Nat) : Int) A B C E (m0 || ((ptAt l i).x == A)) (m1 || ((ptAt l i).x == C)) (m2 || ((ptAt l i).y == B)) (m3 || ((ptAt l i).y == E))))) (fun k => ?_) ?_
    · simp only [apogeelaw11_PolyDown.l0]
      rw [if_pos q1, if_pos q2, if_pos q1]
      have bt : ∀ (a b : Option Bool), (if (true : Bool) = true then a else b) = a := fun a b => if_pos rfl
      have bf : ∀ (a b : Option Bool), (if (false : Bool) = true then a else b) = b := fun a b => if_neg (by decide)
      cases m0 <;> (first | rw [bf] | rw [bt]) <;> cases m1 <;> (first | rw [bf] | rw [bt]) <;> cases m2 <;> (first | rw [bf] | rw [bt]) <;> cases m3 <;> (first | rw [bf] | rw [bt]) <;> rw [if_neg c1, if_neg c2, if_neg c3, if_neg c4, ew] <;> rfl
    · refine Ev.bind (prog_side l hl2 (ptAt l i)) ?_
      rw [corner_side l hr i hlt]
      exact Ev.congr (fun k => if_neg (by decide)) IH

theorem PolyDown : G.PolyDown.Pure := by
  intro l _
  apply ev_some11
  have no : Ev (fun k => apogeelaw11_PolyDown.j0 k l true) true :=
    Ev.step (f := fun k => (apogeelaw11_awake.f k).bind fun t => (some t)) (fun k => by simp only [apogeelaw11_PolyDown.j0]; rw [if_pos trivial]) (Ev.bind awake11 (Ev.now _))
  refine Ev.congr (fun k => rfl) (Ev.bind awake11 (Ev.congr (fun k => if_pos rfl) (Ev.bind (a := decide (l.length ≤ 12)) (Ev.congr (fun k => few11 l) (Ev.now _)) (ev_ite (fun h12 => ?_) (fun _ => no)))))
  have h12' : l.length ≤ 12 := of_decide_eq_true h12
  have hl2 : l.length ≤ 4611686018427387904 := by omega
  refine Ev.bind (ref_right l hl2) ?_
  cases hr : rightS l with
  | false => exact no
  | true =>
    have h3 := simple_len (right_simple hr)
    have hw := wide_box l hr
    obtain ⟨m1, m2, m3, m4⟩ := bounds_met l (by omega)
    have up : ∀ {P : Nat → Prop}, (∃ i, i < l.length ∧ P i) → ∃ a, 0 ≤ a ∧ a < l.length ∧ P a := fun ⟨i, g, e⟩ => ⟨i, by omega, g, e⟩
    refine Ev.step (f := fun k => (poly_Bounds.f k l).bind fun bt => (apogeelaw11_PolyDown.l0 k l bt.2.2.2.2 l l.length 0 bt.1 bt.2.1 bt.2.2.1 bt.2.2.2.1 false false false false)) (fun k => by simp only [apogeelaw11_PolyDown.j0]; rw [if_neg (by decide)]) (Ev.bind (prog_bounds l hl2 hr) ?_)
    exact down_loop l h12' hr _ _ _ _ (bounds_in l) hw.1 hw.2 l.length 0 false false false false (by omega) (.inr (up m1)) (.inr (up m3)) (.inr (up m2)) (.inr (up m4))

end Go.Proofs.Ytjmibjmlihmglaa.Pure
