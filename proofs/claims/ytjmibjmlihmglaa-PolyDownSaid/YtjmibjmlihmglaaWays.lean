/- Bounds of an area, and what a way that meets no edge says of sides. -/
import Derived.Test.YtjmibjmlihmglaaGx0
import Derived.Test.YtjmibjmlihmglaaGx11
import Derived.Test.YtjmibjmlihmglaaGx14
import Derived.Test.YtjmibjmlihmglaaArith
import Derived.Test.YtjmibjmlihmglaaWideBase
import Derived.Test.YtjmibjmlihmglaaWide128
import Derived.Test.YtjmibjmlihmglaaWideMul
import Derived.Test.YtjmibjmlihmglaaGeoBase
import Derived.Test.YtjmibjmlihmglaaGeo
import Derived.Test.YtjmibjmlihmglaaPoint
import Derived.Test.YtjmibjmlihmglaaPoly
import Derived.Test.YtjmibjmlihmglaaSide
namespace Go.Proofs.Ytjmibjmlihmglaa.Q
open Go.RowKit Go.Proofs.Ytjmibjmlihmglaa.G Go.Proofs.Ytjmibjmlihmglaa.Geo Go.Proofs.YtjmibjmlihmglaaW.PrintWords Go.Proofs.YtjmibjmlihmglaaW.PrintLast Go.Proofs.YtjmibjmlihmglaaW.PrintMore
set_option linter.unusedVariables false
set_option linter.unusedSimpArgs false

abbrev Bx := Int × Int × Int × Int
def bF (l : List S41) : Nat → Nat → Bx → Bx
  | 0, _, t => t
  | d + 1, q, (a, b, c, e) => bF l d (q + 1) (min a (ptAt l q).x, min b (ptAt l q).y, max c (ptAt l q).x, max e (ptAt l q).y)
def boundsS (l : List S41) : Bx := bF l l.length 0 ((ptAt l 0).x, (ptAt l 0).y, (ptAt l 0).x, (ptAt l 0).y)

theorem bF_spec (l : List S41) : ∀ (d q : Nat) (a b c e : Int),
    ((bF l d q (a, b, c, e)).1 ≤ a ∧ (bF l d q (a, b, c, e)).2.1 ≤ b ∧ c ≤ (bF l d q (a, b, c, e)).2.2.1 ∧ e ≤ (bF l d q (a, b, c, e)).2.2.2) ∧
    (∀ i, q ≤ i → i < q + d → (bF l d q (a, b, c, e)).1 ≤ (ptAt l i).x ∧ (bF l d q (a, b, c, e)).2.1 ≤ (ptAt l i).y ∧ (ptAt l i).x ≤ (bF l d q (a, b, c, e)).2.2.1 ∧ (ptAt l i).y ≤ (bF l d q (a, b, c, e)).2.2.2) ∧
    ((bF l d q (a, b, c, e)).1 = a ∨ ∃ i, q ≤ i ∧ i < q + d ∧ (bF l d q (a, b, c, e)).1 = (ptAt l i).x) ∧
    ((bF l d q (a, b, c, e)).2.1 = b ∨ ∃ i, q ≤ i ∧ i < q + d ∧ (bF l d q (a, b, c, e)).2.1 = (ptAt l i).y) ∧
    ((bF l d q (a, b, c, e)).2.2.1 = c ∨ ∃ i, q ≤ i ∧ i < q + d ∧ (bF l d q (a, b, c, e)).2.2.1 = (ptAt l i).x) ∧
    ((bF l d q (a, b, c, e)).2.2.2 = e ∨ ∃ i, q ≤ i ∧ i < q + d ∧ (bF l d q (a, b, c, e)).2.2.2 = (ptAt l i).y)
  | 0, q, a, b, c, e => by
    simp only [bF]
    exact ⟨⟨Int.le_refl _, Int.le_refl _, Int.le_refl _, Int.le_refl _⟩, fun i h1 h2 => by omega, .inl trivial, .inl trivial, .inl trivial, .inl trivial⟩
  | d + 1, q, a, b, c, e => by
    obtain ⟨h0, h1, h2, h3, h4, h5⟩ := bF_spec l d (q + 1) (min a (ptAt l q).x) (min b (ptAt l q).y) (max c (ptAt l q).x) (max e (ptAt l q).y)
    simp only [bF]
    generalize bF l d (q + 1) (min a (ptAt l q).x, min b (ptAt l q).y, max c (ptAt l q).x, max e (ptAt l q).y) = r at *
    refine ⟨by clear h1 h2 h3 h4 h5; omega, fun i g1 g2 => ?_, ?_, ?_, ?_, ?_⟩
    · clear h2 h3 h4 h5
      by_cases e1 : i = q
      · clear h1; subst e1; omega
      · exact h1 i (by omega) (by omega)
    · clear h1 h3 h4 h5
      rcases h2 with h | ⟨i, g1, g2, g3⟩
      · by_cases m : a ≤ (ptAt l q).x
        · exact .inl (by omega)
        · exact .inr ⟨q, by omega, by omega, by omega⟩
      · exact .inr ⟨i, by omega, by omega, g3⟩
    · clear h1 h2 h4 h5
      rcases h3 with h | ⟨i, g1, g2, g3⟩
      · by_cases m : b ≤ (ptAt l q).y
        · exact .inl (by omega)
        · exact .inr ⟨q, by omega, by omega, by omega⟩
      · exact .inr ⟨i, by omega, by omega, g3⟩
    · clear h1 h2 h3 h5
      rcases h4 with h | ⟨i, g1, g2, g3⟩
      · by_cases m : (ptAt l q).x ≤ c
        · exact .inl (by omega)
        · exact .inr ⟨q, by omega, by omega, by omega⟩
      · exact .inr ⟨i, by omega, by omega, g3⟩
    · clear h1 h2 h3 h4
      rcases h5 with h | ⟨i, g1, g2, g3⟩
      · by_cases m : (ptAt l q).y ≤ e
        · exact .inl (by omega)
        · exact .inr ⟨q, by omega, by omega, by omega⟩
      · exact .inr ⟨i, by omega, by omega, g3⟩

/-- the bounds hold all corners, and are met by corners -/
theorem bounds_in (l : List S41) (i : Nat) (hi : i < l.length) :
    (boundsS l).1 ≤ (ptAt l i).x ∧ (boundsS l).2.1 ≤ (ptAt l i).y ∧ (ptAt l i).x ≤ (boundsS l).2.2.1 ∧ (ptAt l i).y ≤ (boundsS l).2.2.2 :=
  (bF_spec l l.length 0 _ _ _ _).2.1 i (by omega) (by omega)
theorem bounds_met (l : List S41) (h : 0 < l.length) :
    (∃ i, i < l.length ∧ (boundsS l).1 = (ptAt l i).x) ∧ (∃ i, i < l.length ∧ (boundsS l).2.1 = (ptAt l i).y) ∧ (∃ i, i < l.length ∧ (boundsS l).2.2.1 = (ptAt l i).x) ∧ (∃ i, i < l.length ∧ (boundsS l).2.2.2 = (ptAt l i).y) := by
  obtain ⟨_, _, h2, h3, h4, h5⟩ := bF_spec l l.length 0 (ptAt l 0).x (ptAt l 0).y (ptAt l 0).x (ptAt l 0).y
  refine ⟨?_, ?_, ?_, ?_⟩
  · rcases h2 with h' | ⟨i, _, g, e⟩
    · exact ⟨0, h, h'⟩
    · exact ⟨i, by omega, e⟩
  · rcases h3 with h' | ⟨i, _, g, e⟩
    · exact ⟨0, h, h'⟩
    · exact ⟨i, by omega, e⟩
  · rcases h4 with h' | ⟨i, _, g, e⟩
    · exact ⟨0, h, h'⟩
    · exact ⟨i, by omega, e⟩
  · rcases h5 with h' | ⟨i, _, g, e⟩
    · exact ⟨0, h, h'⟩
    · exact ⟨i, by omega, e⟩

theorem bounds_loop (l : List S41) (hl : l.length ≤ 4611686018427387904) (d : Nat) : ∀ (q : Nat) (a b c e : Int), q + d = l.length →
    Ev (fun k => poly_Bounds.l0 k l l.length q a b c e) ((bF l d q (a, b, c, e)).1, (bF l d q (a, b, c, e)).2.1, (bF l d q (a, b, c, e)).2.2.1, (bF l d q (a, b, c, e)).2.2.2, true) := by
  induction d with
  | zero =>
    intro q a b c e hq
    refine Ev.step (f := fun _ => some (a, b, c, e, true)) (fun k => ?_) (Ev.now _)
    simp only [poly_Bounds.l0]; rw [if_neg (by omega)]
  | succ d ih =>
    intro q a b c e hq
    refine Ev.step (f := fun k => poly_Bounds.l0 k l l.length ((q + 1 : Nat) : Int) (min a (ptAt l q).x) (min b (ptAt l q).y) (max c (ptAt l q).x) (max e (ptAt l q).y)) (fun k => ?_) (ih (q + 1) _ _ _ _ (by omega))
    simp only [poly_Bounds.l0]
    rw [if_pos (by omega), if_pos (by omega), if_pos (by omega), w64 (by omega) (by omega), mn_min, mn_min, mx_max, mx_max]; rfl
theorem prog_bounds (l : List S41) (hl : l.length ≤ 4611686018427387904) (hr : rightS l = true) :
    Ev (fun k => poly_Bounds.f k l) ((boundsS l).1, (boundsS l).2.1, (boundsS l).2.2.1, (boundsS l).2.2.2, true) := by
  have h3 := simple_len (right_simple hr)
  have h := prog_right l hl
  rw [hr] at h
  exact Ev.congr (fun k => rfl) (Ev.bind h (Ev.congr (fun k => if_pos rfl) (Ev.congr (fun k => if_pos (by omega)) (bounds_loop l hl l.length 0 _ _ _ _ (by omega)))))

theorem on_bounds {p a b : Pt} (h : On p a b) : (min a.x b.x ≤ p.x ∧ p.x ≤ max a.x b.x) ∧ (min a.y b.y ≤ p.y ∧ p.y ≤ max a.y b.y) := ⟨⟨h.2.1, h.2.2.1⟩, h.2.2.2.1, h.2.2.2.2⟩
theorem onS_on {p a b : Pt} (h : onS p a b = true) : On p a b := (of_decide_eq_true h).2.2.2

/-- a place outside of the bounds is outside -/
theorem out_side (l : List S41) (hr : rightS l = true) (p : Pt) (hp : Ok p)
    (h : p.x < (boundsS l).1 ∨ p.x > (boundsS l).2.2.1 ∨ p.y < (boundsS l).2.1 ∨ p.y > (boundsS l).2.2.2) : sideS l p = -1 := by
  have hn : 0 < l.length := by have := simple_len (right_simple hr); omega
  have hin := bounds_in l
  rw [side_off l p hr hp (fun a ha => ?_), odd_out l.length (ptAt l) p ?_]
  · rfl
  · rcases h with h | h | h | h
    · exact .inr (.inl fun i hi => by have := hin i hi; omega)
    · exact .inl fun i hi => by have := hin i hi; omega
    · exact .inr (.inr (.inr fun i hi => by have := hin i hi; omega))
    · exact .inr (.inr (.inl fun i hi => by have := hin i hi; omega))
  · apply Bool.eq_false_iff.mpr
    intro e
    have := on_bounds (onS_on e)
    have h1 := hin a ha
    have h2 := hin (nx l.length a) (nx_lt hn)
    omega

theorem on_corner (a c : Pt) : On a a c := by
  unfold On cr
  refine ⟨?_, by omega, by omega, by omega, by omega⟩
  rw [Int.sub_self, Int.sub_self, Int.mul_zero, Int.mul_zero]; rfl
theorem corner_side (l : List S41) (hr : rightS l = true) (i : Nat) (hi : i < l.length) : sideS l (ptAt l i) = 0 := by
  have hok := simple_ok (right_simple hr)
  have h1 := right_okAt hok i hi
  have h2 := right_okAt hok (nx l.length i) (nx_lt (by omega))
  exact side_on l _ hr h1 ⟨i, hi, decide_eq_true ⟨h1, h2, h1, on_corner _ _⟩⟩
theorem sides_alike (l : List S41) (hr : rightS l = true) (p q : Pt) (hp : Ok p) (hq : Ok q) (h : ∀ a, a < l.length → meetS p q (ptAt l a) (ptAt l (nx l.length a)) = false) :
    sideS l p = sideS l q ∧ sideS l p ≠ 0 := by
  have hok := simple_ok (right_simple hr)
  have hm : ∀ a, a < l.length → ¬ Meet p q (ptAt l a) (ptAt l (nx l.length a)) := fun a ha e => by
    have := h a ha
    unfold meetS at this
    exact (of_decide_eq_false this) ⟨hp, hq, right_okAt hok a ha, right_okAt hok _ (nx_lt (by omega)), e⟩
  have o1 : ∀ a, a < l.length → onAt l p a = false := fun a ha => Bool.eq_false_iff.mpr fun e => hm a ha (.inl (onS_on e))
  have o2 : ∀ a, a < l.length → onAt l q a = false := fun a ha => Bool.eq_false_iff.mpr fun e => hm a ha (.inr (.inl (onS_on e)))
  rw [side_off l p hr hp o1, side_off l q hr hq o2, odd_ways l.length (ptAt l) p q hm]
  exact ⟨rfl, by unfold sgB; split <;> decide⟩

theorem awake11 : Ev (fun k => apogeelaw11_awake.f k) true := ⟨100, fun k hk => at_rounds (fun k => apogeelaw11_awake.mono k) hk (by decide +kernel)⟩
theorem few11 (l : List S41) : apogeelaw11_few.f l = some (decide (l.length ≤ 12)) := by
  unfold apogeelaw11_few.f; congr 1; apply decide_eq_decide.mpr; omega
theorem ev_some11 {f : Nat → Option Bool} (h : Ev f true) : ∃ k, f k = some true := by obtain ⟨K, h⟩ := h; exact ⟨K, h K (Nat.le_refl _)⟩

end Go.Proofs.Ytjmibjmlihmglaa.Q
