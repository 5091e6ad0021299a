/- Boxes: a way meets a box just if their bounds overlap and the way has not all four corners strictly on one side. -/
import Derived.Test.YtfeekdoakoabeaaGeoBase
import Derived.Test.YtfeekdoakoabeaaGeo
set_option linter.unusedVariables false
namespace Go.Proofs.Ytfeekdoakoabeaa.Geo
theorem cr_move (p q u v : Pt) : cr p q u = cr p q v + (q.x - p.x) * (u.y - v.y) - (q.y - p.y) * (u.x - v.x) := by unfold cr; grind
def Over (a b c d : Int) (p q : Pt) : Prop := (a ≤ max p.x q.x ∧ min p.x q.x ≤ c) ∧ b ≤ max p.y q.y ∧ min p.y q.y ≤ d
def Pos (a b c d : Int) (p q : Pt) : Prop := 0 < cr p q ⟨a, b⟩ ∧ 0 < cr p q ⟨c, b⟩ ∧ 0 < cr p q ⟨c, d⟩ ∧ 0 < cr p q ⟨a, d⟩
def InB (a b c d : Int) (p : Pt) : Prop := (a ≤ p.x ∧ p.x ≤ c) ∧ b ≤ p.y ∧ p.y ≤ d
def Hit (a b c d : Int) (p q : Pt) : Prop := Over a b c d p q ∧ ¬ Pos a b c d p q ∧ ¬ Pos a b c d q p
def Edge (a b c d : Int) (p q : Pt) : Prop := Meet p q ⟨a, b⟩ ⟨c, b⟩ ∨ Meet p q ⟨c, b⟩ ⟨c, d⟩ ∨ Meet p q ⟨c, d⟩ ⟨a, d⟩ ∨ Meet p q ⟨a, d⟩ ⟨a, b⟩
instance (a b c d : Int) (p q : Pt) : Decidable (Over a b c d p q) := inferInstanceAs (Decidable (_ ∧ _))
instance (a b c d : Int) (p q : Pt) : Decidable (Pos a b c d p q) := inferInstanceAs (Decidable (_ ∧ _))
instance (a b c d : Int) (p : Pt) : Decidable (InB a b c d p) := inferInstanceAs (Decidable (_ ∧ _))
instance (a b c d : Int) (p q : Pt) : Decidable (Hit a b c d p q) := inferInstanceAs (Decidable (_ ∧ _))
instance (a b c d : Int) (p q : Pt) : Decidable (Edge a b c d p q) := inferInstanceAs (Decidable (_ ∨ _))
theorem pos_in {a b c d : Int} {p q u : Pt} (h : Pos a b c d p q) (hu : InB a b c d u) : 0 < cr p q u := by
  unfold Pos at h; unfold InB at hu
  by_cases e : 0 ≤ q.x - p.x <;> by_cases f : 0 ≤ q.y - p.y
  · have k := cr_move p q u ⟨c, b⟩
    have e1 := Int.mul_nonneg e (show 0 ≤ u.y - b by omega)
    have e2 := Int.mul_nonneg f (show 0 ≤ c - u.x by omega)
    grind
  · have k := cr_move p q u ⟨a, b⟩
    have e1 := Int.mul_nonneg e (show 0 ≤ u.y - b by omega)
    have e2 := Int.mul_nonneg (show 0 ≤ -(q.y - p.y) by omega) (show 0 ≤ u.x - a by omega)
    grind
  · have k := cr_move p q u ⟨c, d⟩
    have e1 := Int.mul_nonneg (show 0 ≤ -(q.x - p.x) by omega) (show 0 ≤ d - u.y by omega)
    have e2 := Int.mul_nonneg f (show 0 ≤ c - u.x by omega)
    grind
  · have k := cr_move p q u ⟨a, d⟩
    have e1 := Int.mul_nonneg (show 0 ≤ -(q.x - p.x) by omega) (show 0 ≤ d - u.y by omega)
    have e2 := Int.mul_nonneg (show 0 ≤ -(q.y - p.y) by omega) (show 0 ≤ u.x - a by omega)
    grind
theorem not_pos {a b c d : Int} {p q u : Pt} (hu : InB a b c d u) (h : cr p q u ≤ 0) : ¬ Pos a b c d p q := fun k => by
  have := pos_in k hu; omega
theorem cr_self (p q : Pt) : cr p q p = 0 := by unfold cr; grind
theorem cr_self' (p q : Pt) : cr p q q = 0 := by unfold cr; grind
theorem hit_on {a b c d : Int} {p q u : Pt} (hu : InB a b c d u) (h : On u p q) : Hit a b c d p q := by
  unfold On at h
  refine ⟨by unfold Over; unfold InB at hu; omega, not_pos hu (by omega), not_pos hu (by rw [cr_swap]; omega)⟩
theorem on_self (p q : Pt) : On p p q := by
  unfold On; rw [cr_self]; omega
theorem on_self' (p q : Pt) : On q p q := by
  unfold On; rw [cr_self']; omega
theorem fourX (p q a b : Pt) : cr p q b * (a.x - p.x) - cr p q a * (b.x - p.x) = cr a b p * (q.x - p.x) := by unfold cr; grind
theorem fourX' (p q a b : Pt) : cr p q b * (a.x - q.x) - cr p q a * (b.x - q.x) = cr a b q * (q.x - p.x) := by unfold cr; grind
theorem one_sign {x y d : Int} (h1 : 0 < x * d) (h2 : 0 < y * d) : ¬ Opp x y := by
  rintro (⟨h, k⟩ | ⟨h, k⟩)
  · by_cases hd : 0 < d
    · have := pos_of hd h1; omega
    · have := Int.mul_nonneg (show 0 ≤ y by omega) (show 0 ≤ -d by omega); grind
  · by_cases hd : 0 < d
    · have := pos_of hd h2; omega
    · have := Int.mul_nonneg (show 0 ≤ x by omega) (show 0 ≤ -d by omega); grind
theorem cross_over {A B P Q px qx ax bx : Int} (f : B * (ax - px) - A * (bx - px) = P * (qx - px)) (g : B * (ax - qx) - A * (bx - qx) = Q * (qx - px))
    (hA : Opp A B) (hP : Opp P Q) : max px qx ≥ min ax bx ∧ max ax bx ≥ min px qx := by
  have key : ∀ s t u v : Int, 0 < s → 0 < t → 0 < u → 0 < v → B * s - A * t = P * (qx - px) → B * u - A * v = Q * (qx - px) → False := by
    intro s t u v hs ht hu hv e1 e2
    rcases hA with ⟨h, k⟩ | ⟨h, k⟩
    · have := Int.mul_pos k hs; have := Int.mul_pos (show 0 < -A by omega) ht
      have := Int.mul_pos k hu; have := Int.mul_pos (show 0 < -A by omega) hv
      exact one_sign (x := P) (y := Q) (d := qx - px) (by grind) (by grind) hP
    · have := Int.mul_pos h ht; have := Int.mul_pos (show 0 < -B by omega) hs
      have := Int.mul_pos h hv; have := Int.mul_pos (show 0 < -B by omega) hu
      exact one_sign (x := P) (y := Q) (d := -(qx - px)) (by grind) (by grind) hP
  constructor
  · apply Int.not_lt.mp; intro h
    exact key (ax - px) (bx - px) (ax - qx) (bx - qx) (by omega) (by omega) (by omega) (by omega) f g
  · apply Int.not_lt.mp; intro h
    have key2 : ∀ s t u v : Int, 0 < s → 0 < t → 0 < u → 0 < v → B * (-s) - A * (-t) = P * (qx - px) → B * (-u) - A * (-v) = Q * (qx - px) → False := by
      intro s t u v hs ht hu hv e1 e2
      rcases hA with ⟨h, k⟩ | ⟨h, k⟩
      · have := Int.mul_pos k hs; have := Int.mul_pos (show 0 < -A by omega) ht
        have := Int.mul_pos k hu; have := Int.mul_pos (show 0 < -A by omega) hv
        exact one_sign (x := P) (y := Q) (d := -(qx - px)) (by grind) (by grind) hP
      · have := Int.mul_pos h ht; have := Int.mul_pos (show 0 < -B by omega) hs
        have := Int.mul_pos h hv; have := Int.mul_pos (show 0 < -B by omega) hu
        exact one_sign (x := P) (y := Q) (d := qx - px) (by grind) (by grind) hP
    exact key2 (px - ax) (px - bx) (qx - ax) (qx - bx) (by omega) (by omega) (by omega) (by omega) (by grind) (by grind)
theorem hit_meet {a b c d : Int} {p q u v : Pt} (hu : InB a b c d u) (hv : InB a b c d v) (h : Meet p q u v) : Hit a b c d p q := by
  have bx : ∀ w, On w u v → InB a b c d w := fun w h => by unfold On at h; unfold InB at *; omega
  rcases h with h | h | h | h | ⟨h1, h2⟩
  · exact hit_on (bx _ h) (on_self _ _)
  · exact hit_on (bx _ h) (on_self' _ _)
  · exact hit_on hu h
  · exact hit_on hv h
  · have x := cross_over (fourX p q u v) (fourX' p q u v) h1 h2
    have y := cross_over (fourP p q u v) (fourQ p q u v) h1 h2
    refine ⟨by unfold Over; unfold InB at *; omega, ?_, ?_⟩
    · rcases h1 with h1 | h1
      · exact not_pos hu (by omega)
      · exact not_pos hv (by omega)
    · rcases h1 with h1 | h1
      · exact not_pos hv (by rw [cr_swap]; omega)
      · exact not_pos hu (by rw [cr_swap]; omega)
theorem hit_in {a b c d a' b' c' d' : Int} {p q : Pt} (hac : a' ≤ c') (hbd : b' ≤ d') (h1 : InB a b c d ⟨a', b'⟩) (h2 : InB a b c d ⟨c', d'⟩) (h : Hit a' b' c' d' p q) : Hit a b c d p q := by
  obtain ⟨ho, k1, k2⟩ := h
  have f : ∀ p q : Pt, Pos a b c d p q → Pos a' b' c' d' p q := fun p q k =>
    ⟨pos_in k h1, pos_in k (by unfold InB at *; simp only at *; omega), pos_in k h2, pos_in k (by unfold InB at *; simp only at *; omega)⟩
  exact ⟨by unfold Over at *; unfold InB at *; simp only at *; omega, fun e => k1 (f _ _ e), fun e => k2 (f _ _ e)⟩
end Go.Proofs.Ytfeekdoakoabeaa.Geo
