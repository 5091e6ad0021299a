/- Boxes: a way meets a box just if their bounds overlap and the way has not all four corners strictly on one side. -/
import Derived.Test.YtjmibjmlihmglaaGeoBase
import Derived.Test.YtjmibjmlihmglaaGeo
set_option linter.unusedVariables false
namespace Go.Proofs.Ytjmibjmlihmglaa.Geo

theorem cr_move (p q u v : Pt) : cr p q u = cr p q v + (q.x - p.x) * (u.y - v.y) - (q.y - p.y) * (u.x - v.x) := by unfold cr; grind

def Over (a b c d : Int) (p q : Pt) : Prop := (a ≤ max p.x q.x ∧ min p.x q.x ≤ c) ∧ b ≤ max p.y q.y ∧ min p.y q.y ≤ d
def Pos (a b c d : Int) (p q : Pt) : Prop := 0 < cr p q ⟨a, b⟩ ∧ 0 < cr p q ⟨c, b⟩ ∧ 0 < cr p q ⟨c, d⟩ ∧ 0 < cr p q ⟨a, d⟩
def InB (a b c d : Int) (p : Pt) : Prop := (a ≤ p.x ∧ p.x ≤ c) ∧ b ≤ p.y ∧ p.y ≤ d
def Hit (a b c d : Int) (p q : Pt) : Prop := Over a b c d p q ∧ ¬ Pos a b c d p q ∧ ¬ Pos a b c d q p
def Edge (a b c d : Int) (p q : Pt) : Prop := Meet p q ⟨a, b⟩ ⟨c, b⟩ ∨ Meet p q ⟨c, b⟩ ⟨c, d⟩ ∨ Meet p q ⟨c, d⟩ ⟨a, d⟩ ∨ Meet p q ⟨a, d⟩ ⟨a, b⟩
instance (a b c d : Int) (p q : Pt) : Decidable (Over a b c d p q) := inferInstanceAs (Decidable (_ ∧ _))
instance (a b c d : Int) (p q : Pt) : Decidable (Pos a b c d p q) := inferInstanceAs (Decidable (_ ∧ _))
instance (a b c d : Int) (p : Pt) : Decidable (InB a b c d p) := inferInstanceAs (Decidable (_ ∧ _))
instance (a b c d : Int) (p q : Pt) : Decidable (Hit a b c d p q) := inferInstanceAs (Decidable (_ ∧ _))
instance (a b c d : Int) (p q : Pt) : Decidable (Edge a b c d p q) := inferInstanceAs (Decidable (_ ∨ _))

theorem hit_swap {a b c d : Int} {p q : Pt} : Hit a b c d p q ↔ Hit a b c d q p := by
  unfold Hit Over
  constructor <;> intro h <;> exact ⟨by omega, h.2.2, h.2.1⟩

theorem pos_in {a b c d : Int} {p q u : Pt} (h : Pos a b c d p q) (hu : InB a b c d u) : 0 < cr p q u := by
  unfold Pos at h; unfold InB at hu
  by_cases e : 0 ≤ q.x - p.x <;> by_cases f : 0 ≤ q.y - p.y
  · have k := cr_move p q u ⟨c, b⟩
    have e1 := Int.mul_nonneg e (show 0 ≤ u.y - b by omega)
    have e2 := Int.mul_nonneg f (show 0 ≤ c - u.x by omega)
    grind
  · have k := cr_move p q u ⟨a, b⟩
    have e1 := Int.mul_nonneg e (show 0 ≤ u.y - b by omega)
    have e2 := Int.mul_nonneg (show 0 ≤ -(q.y - p.y) by omega) (show 0 ≤ u.x - a by omega)
    grind
  · have k := cr_move p q u ⟨c, d⟩
    have e1 := Int.mul_nonneg (show 0 ≤ -(q.x - p.x) by omega) (show 0 ≤ d - u.y by omega)
    have e2 := Int.mul_nonneg f (show 0 ≤ c - u.x by omega)
    grind
  · have k := cr_move p q u ⟨a, d⟩
    have e1 := Int.mul_nonneg (show 0 ≤ -(q.x - p.x) by omega) (show 0 ≤ d - u.y by omega)
    have e2 := Int.mul_nonneg (show 0 ≤ -(q.y - p.y) by omega) (show 0 ≤ u.x - a by omega)
    grind

theorem not_pos {a b c d : Int} {p q u : Pt} (hu : InB a b c d u) (h : cr p q u ≤ 0) : ¬ Pos a b c d p q := fun k => by
  have := pos_in k hu; omega
theorem cr_self (p q : Pt) : cr p q p = 0 := by unfold cr; grind
theorem cr_self' (p q : Pt) : cr p q q = 0 := by unfold cr; grind

/-- a place of the box on the way's line and in the way's bounds -/
theorem hit_on {a b c d : Int} {p q u : Pt} (hu : InB a b c d u) (h : On u p q) : Hit a b c d p q := by
  unfold On at h
  refine ⟨by unfold Over; unfold InB at hu; omega, not_pos hu (by omega), not_pos hu (by rw [cr_swap]; omega)⟩
theorem on_self (p q : Pt) : On p p q := by
  unfold On; rw [cr_self]; omega
theorem on_self' (p q : Pt) : On q p q := by
  unfold On; rw [cr_self']; omega

theorem fourX (p q a b : Pt) : cr p q b * (a.x - p.x) - cr p q a * (b.x - p.x) = cr a b p * (q.x - p.x) := by unfold cr; grind
theorem fourX' (p q a b : Pt) : cr p q b * (a.x - q.x) - cr p q a * (b.x - q.x) = cr a b q * (q.x - p.x) := by unfold cr; grind

/-- two products of one number with one sign: the other factors have one sign -/
theorem one_sign {x y d : Int} (h1 : 0 < x * d) (h2 : 0 < y * d) : ¬ Opp x y := by
  rintro (⟨h, k⟩ | ⟨h, k⟩)
  · by_cases hd : 0 < d
    · have := pos_of hd h1; omega
    · have := Int.mul_nonneg (show 0 ≤ y by omega) (show 0 ≤ -d by omega); grind
  · by_cases hd : 0 < d
    · have := pos_of hd h2; omega
    · have := Int.mul_nonneg (show 0 ≤ x by omega) (show 0 ≤ -d by omega); grind

/-- two ways that cross have bounds that overlap, in one direction (u, v: the numbers; identities of the crossing) -/
theorem cross_over {A B P Q px qx ax bx : Int} (f : B * (ax - px) - A * (bx - px) = P * (qx - px)) (g : B * (ax - qx) - A * (bx - qx) = Q * (qx - px))
    (hA : Opp A B) (hP : Opp P Q) : max px qx ≥ min ax bx ∧ max ax bx ≥ min px qx := by
  have key : ∀ s t u v : Int, 0 < s → 0 < t → 0 < u → 0 < v → B * s - A * t = P * (qx - px) → B * u - A * v = Q * (qx - px) → False := by
    intro s t u v hs ht hu hv e1 e2
    rcases hA with ⟨h, k⟩ | ⟨h, k⟩
    · have := Int.mul_pos k hs; have := Int.mul_pos (show 0 < -A by omega) ht
      have := Int.mul_pos k hu; have := Int.mul_pos (show 0 < -A by omega) hv
      exact one_sign (x := P) (y := Q) (d := qx - px) (by grind) (by grind) hP
    · have := Int.mul_pos h ht; have := Int.mul_pos (show 0 < -B by omega) hs
      have := Int.mul_pos h hv; have := Int.mul_pos (show 0 < -B by omega) hu
      exact one_sign (x := P) (y := Q) (d := -(qx - px)) (by grind) (by grind) hP
  constructor
  · apply Int.not_lt.mp; intro h
    exact key (ax - px) (bx - px) (ax - qx) (bx - qx) (by omega) (by omega) (by omega) (by omega) f g
  · apply Int.not_lt.mp; intro h
    have key2 : ∀ s t u v : Int, 0 < s → 0 < t → 0 < u → 0 < v → B * (-s) - A * (-t) = P * (qx - px) → B * (-u) - A * (-v) = Q * (qx - px) → False := by
      intro s t u v hs ht hu hv e1 e2
      rcases hA with ⟨h, k⟩ | ⟨h, k⟩
      · have := Int.mul_pos k hs; have := Int.mul_pos (show 0 < -A by omega) ht
        have := Int.mul_pos k hu; have := Int.mul_pos (show 0 < -A by omega) hv
        exact one_sign (x := P) (y := Q) (d := -(qx - px)) (by grind) (by grind) hP
      · have := Int.mul_pos h ht; have := Int.mul_pos (show 0 < -B by omega) hs
        have := Int.mul_pos h hv; have := Int.mul_pos (show 0 < -B by omega) hu
        exact one_sign (x := P) (y := Q) (d := qx - px) (by grind) (by grind) hP
    exact key2 (px - ax) (px - bx) (qx - ax) (qx - bx) (by omega) (by omega) (by omega) (by omega) (by grind) (by grind)

theorem opp_swap {x y : Int} (h : Opp x y) : Opp y x := by unfold Opp at *; omega

/-- ways that meet a way within the box hit the box -/
theorem hit_meet {a b c d : Int} {p q u v : Pt} (hu : InB a b c d u) (hv : InB a b c d v) (h : Meet p q u v) : Hit a b c d p q := by
  have bx : ∀ w, On w u v → InB a b c d w := fun w h => by unfold On at h; unfold InB at *; omega
  rcases h with h | h | h | h | ⟨h1, h2⟩
  · exact hit_on (bx _ h) (on_self _ _)
  · exact hit_on (bx _ h) (on_self' _ _)
  · exact hit_on hu h
  · exact hit_on hv h
  · have x := cross_over (fourX p q u v) (fourX' p q u v) h1 h2
    have y := cross_over (fourP p q u v) (fourQ p q u v) h1 h2
    refine ⟨by unfold Over; unfold InB at *; omega, ?_, ?_⟩
    · rcases h1 with h1 | h1
      · exact not_pos hu (by omega)
      · exact not_pos hv (by omega)
    · rcases h1 with h1 | h1
      · exact not_pos hv (by rw [cr_swap]; omega)
      · exact not_pos hu (by rw [cr_swap]; omega)

def Wk (u v : Int) : Prop := (u ≤ 0 ∧ 0 ≤ v) ∨ (v ≤ 0 ∧ 0 ≤ u)
theorem wk_swap {x y : Int} (h : Wk x y) : Wk y x := by unfold Wk at *; omega
theorem wk_opp {x y : Int} (h : Wk x y) (hx : x ≠ 0) (hy : y ≠ 0) : Opp x y := by unfold Wk Opp at *; omega

/-- between, in one direction: P and Q are weakly opposite, B (a - p) = P (q - p) -/
theorem btw {B P Q px qx ax : Int} (hB : B ≠ 0) (f : B * (ax - px) = P * (qx - px)) (g : B * (ax - qx) = Q * (qx - px)) (hP : Wk P Q) : min px qx ≤ ax ∧ ax ≤ max px qx := by
  have key : ∀ s t : Int, 0 < s * t → B * s = P * (qx - px) → B * t = Q * (qx - px) → False := by
    intro s t h e1 e2
    have h1 : 0 < (B * s) * (B * t) := by
      have : 0 < B * B := by rcases Int.lt_or_gt_of_ne hB with h | h
                             · have := Int.mul_pos (show 0 < -B by omega) (show 0 < -B by omega); grind
                             · exact Int.mul_pos h h
      have := Int.mul_pos this h; grind
    rw [e1, e2] at h1
    have h2 : 0 ≤ (-(P * Q)) * ((qx - px) * (qx - px)) := by
      apply Int.mul_nonneg
      · rcases hP with ⟨u, v⟩ | ⟨u, v⟩
        · have := Int.mul_nonneg (show 0 ≤ -P by omega) v; grind
        · have := Int.mul_nonneg v (show 0 ≤ -Q by omega); grind
      · rcases Int.le_total 0 (qx - px) with h | h
        · exact Int.mul_nonneg h h
        · have := Int.mul_nonneg (show 0 ≤ -(qx - px) by omega) (show 0 ≤ -(qx - px) by omega); grind
    grind
  constructor
  · apply Int.not_lt.mp; intro h
    exact key (ax - px) (ax - qx) (by have := Int.mul_pos (show 0 < -(ax - px) by omega) (show 0 < -(ax - qx) by omega); grind) f g
  · apply Int.not_lt.mp; intro h
    exact key (ax - px) (ax - qx) (Int.mul_pos (by omega) (by omega)) f g

theorem on_wk {p q a b : Pt} (hA : cr p q a = 0) (hB : cr p q b ≠ 0) (hP : Wk (cr a b p) (cr a b q)) : On a p q := by
  have f1 := fourX p q a b
  have f2 := fourX' p q a b
  have f3 := fourP p q a b
  have f4 := fourQ p q a b
  rw [hA] at f1 f2 f3 f4
  simp only [Int.zero_mul, Int.sub_zero] at f1 f2 f3 f4
  have x := btw hB f1 f2 hP
  have y := btw hB f3 f4 hP
  exact ⟨hA, x.1, x.2, y.1, y.2⟩

/-- each way weakly parts the other's ends, and not all lie on one line: they meet -/
theorem meet_wk {p q a b : Pt} (hA : Wk (cr p q a) (cr p q b)) (hP : Wk (cr a b p) (cr a b q)) (h0 : cr p q a ≠ 0 ∨ cr p q b ≠ 0) : Meet p q a b := by
  by_cases hA0 : cr p q a = 0
  · exact .inr (.inr (.inl (on_wk hA0 (by omega) hP)))
  · by_cases hB0 : cr p q b = 0
    · refine .inr (.inr (.inr (.inl (on_wk hB0 hA0 ?_))))
      rw [cr_swap a b p, cr_swap a b q]; unfold Wk at *; omega
    · have hf := four p q a b
      by_cases hP0 : cr a b p = 0
      · exact .inl (on_wk hP0 (by unfold Wk at hA; omega) hA)
      · by_cases hQ0 : cr a b q = 0
        · refine .inr (.inl (on_wk hQ0 hP0 ?_))
          rw [cr_swap p q a, cr_swap p q b]; unfold Wk at *; omega
        · exact .inr (.inr (.inr (.inr ⟨wk_opp hA hA0 hB0, wk_opp hP hP0 hQ0⟩)))

/-- a way from the left of a box that overlaps it and has not all corners on one side meets an edge -/
theorem edge_left {a b c d : Int} {p q : Pt} (hac : a ≤ c) (hbd : b ≤ d) (hp : p.x < a) (h : Hit a b c d p q) : Edge a b c d p q := by
  obtain ⟨ho, h1, h2⟩ := h
  unfold Over at ho
  have hq : a ≤ q.x := by omega
  have hE : 0 < q.x - p.x := by omega
  -- the left edge
  have m1 := cr_move p q ⟨a, d⟩ ⟨a, b⟩
  have m2 := cr_move p q ⟨c, b⟩ ⟨a, b⟩
  have m3 := cr_move p q ⟨c, d⟩ ⟨c, b⟩
  have m4 := cr_move p q ⟨c, d⟩ ⟨a, d⟩
  simp only [Int.sub_self, Int.mul_zero, Int.sub_zero, Int.add_zero] at m1 m2 m3 m4
  have g1 := Int.mul_nonneg (Int.le_of_lt hE) (show 0 ≤ d - b by omega)
  have k0 : cr p q ⟨a, b⟩ = (q.x - p.x) * (b - p.y) - (q.y - p.y) * (a - p.x) := rfl
  have k3 : cr p q ⟨a, d⟩ = (q.x - p.x) * (d - p.y) - (q.y - p.y) * (a - p.x) := rfl
  by_cases w : cr p q ⟨a, b⟩ ≤ 0 ∧ 0 ≤ cr p q ⟨a, d⟩
  · by_cases z : cr p q ⟨a, b⟩ = 0 ∧ cr p q ⟨a, d⟩ = 0
    · -- one place
      have hbd' : d = b := by
        apply Classical.byContradiction; intro hne
        have := Int.mul_pos hE (show 0 < d - b by omega); omega
      have hy : min p.y q.y ≤ b ∧ b ≤ max p.y q.y := by
        have e : (q.x - p.x) * (b - p.y) = (q.y - p.y) * (a - p.x) := by omega
        constructor
        · apply Int.not_lt.mp; intro hlt
          have e1 := Int.mul_pos (show 0 < p.y - b by omega) (show 0 < q.x - a + (a - p.x) by omega)
          have e3 := Int.mul_nonneg (show 0 ≤ p.y - b by omega) (show 0 ≤ q.x - a by omega)
          have e4 := Int.mul_pos (show 0 < q.y - b by omega) (show 0 < a - p.x by omega)
          grind
        · apply Int.not_lt.mp; intro hlt
          have e3 := Int.mul_nonneg (show 0 ≤ b - p.y by omega) (show 0 ≤ q.x - a by omega)
          have e4 := Int.mul_pos (show 0 < b - q.y by omega) (show 0 < a - p.x by omega)
          grind
      refine .inl (.inr (.inr (.inl ⟨z.1, ?_⟩)))
      simp only; omega
    · refine .inr (.inr (.inr (meet_swap _ _ _ _ (meet_wk (.inl w) ?_ (by omega)))))
      have e1 : cr ⟨a, b⟩ ⟨a, d⟩ p = (d - b) * (a - p.x) := by unfold cr; grind
      have e2 : cr ⟨a, b⟩ ⟨a, d⟩ q = - ((d - b) * (q.x - a)) := by unfold cr; grind
      have f1 := Int.mul_nonneg (show 0 ≤ d - b by omega) (show 0 ≤ a - p.x by omega)
      have f2 := Int.mul_nonneg (show 0 ≤ d - b by omega) (show 0 ≤ q.x - a by omega)
      unfold Wk; omega
  · by_cases w0 : 0 < cr p q ⟨a, b⟩
    · -- beneath
      have w1 : cr p q ⟨c, b⟩ ≤ 0 := by
        apply Int.not_lt.mp; intro k
        exact h1 ⟨w0, k, by omega, by omega⟩
      have hF : 0 < (q.y - p.y) * (c - a) := by omega
      have hF' : 0 < q.y - p.y := by
        apply Int.not_le.mp; intro k
        have := Int.mul_nonneg (show 0 ≤ -(q.y - p.y) by omega) (show 0 ≤ c - a by omega); grind
      have hpy : p.y < b := by
        apply Int.not_le.mp; intro k
        have e1 := Int.mul_nonneg (Int.le_of_lt hE) (show 0 ≤ p.y - b by omega)
        have e2 := Int.mul_pos hF' (show 0 < a - p.x by omega)
        grind
      refine .inl (meet_wk (.inr ⟨w1, by omega⟩) ?_ (by omega))
      have e1 : cr ⟨a, b⟩ ⟨c, b⟩ p = - ((c - a) * (b - p.y)) := by unfold cr; grind
      have e2 : cr ⟨a, b⟩ ⟨c, b⟩ q = (c - a) * (q.y - b) := by unfold cr; grind
      have f1 := Int.mul_nonneg (show 0 ≤ c - a by omega) (show 0 ≤ b - p.y by omega)
      have f2 := Int.mul_nonneg (show 0 ≤ c - a by omega) (show 0 ≤ q.y - b by omega)
      unfold Wk; omega
    · -- above
      have w3 : cr p q ⟨a, d⟩ < 0 := by omega
      have w2 : 0 ≤ cr p q ⟨c, d⟩ := by
        apply Int.not_lt.mp; intro k
        refine h2 ⟨?_, ?_, ?_, ?_⟩ <;> rw [cr_swap] <;> omega
      have hF : 0 < -((q.y - p.y) * (c - a)) := by omega
      have hF' : q.y - p.y < 0 := by
        apply Int.not_le.mp; intro k
        have := Int.mul_nonneg k (show 0 ≤ c - a by omega); omega
      have hpy : d < p.y := by
        apply Int.not_le.mp; intro k
        have e1 := Int.mul_nonneg (Int.le_of_lt hE) (show 0 ≤ d - p.y by omega)
        have e2 := Int.mul_pos (show 0 < -(q.y - p.y) by omega) (show 0 < a - p.x by omega)
        grind
      refine .inr (.inr (.inl (meet_swap _ _ _ _ (meet_wk (.inl ⟨by omega, w2⟩) ?_ (by omega)))))
      have e1 : cr ⟨a, d⟩ ⟨c, d⟩ p = (c - a) * (p.y - d) := by unfold cr; grind
      have e2 : cr ⟨a, d⟩ ⟨c, d⟩ q = - ((c - a) * (d - q.y)) := by unfold cr; grind
      have f1 := Int.mul_nonneg (show 0 ≤ c - a by omega) (show 0 ≤ p.y - d by omega)
      have f2 := Int.mul_nonneg (show 0 ≤ c - a by omega) (show 0 ≤ d - q.y by omega)
      unfold Wk; omega

/-- mirrored, and turned over -/
def mir (p : Pt) : Pt := ⟨-p.x, p.y⟩
def tra (p : Pt) : Pt := ⟨p.y, p.x⟩
theorem cr_mir (a b c : Pt) : cr (mir a) (mir b) (mir c) = - cr a b c := by unfold cr mir; grind
theorem cr_tra (a b c : Pt) : cr (tra a) (tra b) (tra c) = - cr a b c := by unfold cr tra; grind
theorem on_mir (a b c : Pt) : On (mir a) (mir b) (mir c) ↔ On a b c := by
  unfold On; rw [cr_mir]; unfold mir; simp only; omega
theorem on_tra (a b c : Pt) : On (tra a) (tra b) (tra c) ↔ On a b c := by
  unfold On; rw [cr_tra]; unfold tra; simp only; omega
theorem opp_neg (x y : Int) : Opp (-x) (-y) ↔ Opp x y := by unfold Opp; omega
theorem meet_mir (a b c d : Pt) : Meet (mir a) (mir b) (mir c) (mir d) ↔ Meet a b c d := by
  unfold Meet; simp only [on_mir, cr_mir, opp_neg]
theorem meet_tra (a b c d : Pt) : Meet (tra a) (tra b) (tra c) (tra d) ↔ Meet a b c d := by
  unfold Meet; simp only [on_tra, cr_tra, opp_neg]

theorem hit_mir {a b c d : Int} {p q : Pt} (h : Hit a b c d p q) : Hit (-c) b (-a) d (mir p) (mir q) := by
  obtain ⟨ho, h1, h2⟩ := h
  have k : ∀ p q : Pt, Pos (-c) b (-a) d (mir p) (mir q) → Pos a b c d q p := by
    intro p q ⟨k1, k2, k3, k4⟩
    have e : ∀ x y : Int, cr (mir p) (mir q) ⟨-x, y⟩ = cr q p ⟨x, y⟩ := fun x y => by rw [cr_swap p q]; exact cr_mir p q ⟨x, y⟩
    rw [e] at k1 k2 k3 k4
    exact ⟨k2, k1, k4, k3⟩
  exact ⟨by unfold Over at *; unfold mir; simp only; omega, fun e => h2 (k _ _ e), fun e => h1 (k _ _ e)⟩
theorem hit_tra {a b c d : Int} {p q : Pt} (h : Hit a b c d p q) : Hit b a d c (tra p) (tra q) := by
  obtain ⟨ho, h1, h2⟩ := h
  have k : ∀ p q : Pt, Pos b a d c (tra p) (tra q) → Pos a b c d q p := by
    intro p q ⟨k1, k2, k3, k4⟩
    have e : ∀ x y : Int, cr (tra p) (tra q) ⟨y, x⟩ = cr q p ⟨x, y⟩ := fun x y => by rw [cr_swap p q]; exact cr_tra p q ⟨x, y⟩
    rw [e] at k1 k2 k3 k4
    exact ⟨k1, k4, k3, k2⟩
  exact ⟨by unfold Over at *; unfold tra; simp only; omega, fun e => h2 (k _ _ e), fun e => h1 (k _ _ e)⟩
theorem edge_mir {a b c d : Int} {p q : Pt} (h : Edge (-c) b (-a) d (mir p) (mir q)) : Edge a b c d p q := by
  rcases h with h | h | h | h
  · exact .inl (meet_swap _ _ _ _ ((meet_mir p q ⟨c, b⟩ ⟨a, b⟩).1 h))
  · exact .inr (.inr (.inr (meet_swap _ _ _ _ ((meet_mir p q ⟨a, b⟩ ⟨a, d⟩).1 h))))
  · exact .inr (.inr (.inl (meet_swap _ _ _ _ ((meet_mir p q ⟨a, d⟩ ⟨c, d⟩).1 h))))
  · exact .inr (.inl (meet_swap _ _ _ _ ((meet_mir p q ⟨c, d⟩ ⟨c, b⟩).1 h)))
theorem edge_tra {a b c d : Int} {p q : Pt} (h : Edge b a d c (tra p) (tra q)) : Edge a b c d p q := by
  rcases h with h | h | h | h
  · exact .inr (.inr (.inr (meet_swap _ _ _ _ ((meet_tra p q ⟨a, b⟩ ⟨a, d⟩).1 h))))
  · exact .inr (.inr (.inl (meet_swap _ _ _ _ ((meet_tra p q ⟨a, d⟩ ⟨c, d⟩).1 h))))
  · exact .inr (.inl (meet_swap _ _ _ _ ((meet_tra p q ⟨c, d⟩ ⟨c, b⟩).1 h)))
  · exact .inl (meet_swap _ _ _ _ ((meet_tra p q ⟨c, b⟩ ⟨a, b⟩).1 h))

theorem edge_side {a b c d : Int} {p q : Pt} (hac : a ≤ c) (hbd : b ≤ d) (hp : p.x < a ∨ c < p.x) (h : Hit a b c d p q) : Edge a b c d p q := by
  rcases hp with hp | hp
  · exact edge_left hac hbd hp h
  · exact edge_mir (edge_left (by omega) hbd (by unfold mir; simp only; omega) (hit_mir h))

/-- the two ways to say that a way meets a box -/
theorem hit_iff {a b c d : Int} {p q : Pt} (hac : a ≤ c) (hbd : b ≤ d) : Hit a b c d p q ↔ (InB a b c d p ∨ InB a b c d q) ∨ Edge a b c d p q := by
  constructor
  · intro h
    by_cases hp : InB a b c d p
    · exact .inl (.inl hp)
    · right
      by_cases hx : p.x < a ∨ c < p.x
      · exact edge_side hac hbd hx h
      · exact edge_tra (edge_side hbd hac (by unfold tra; unfold InB at hp; simp only; omega) (hit_tra h))
  · rintro ((h | h) | h)
    · exact hit_on h (on_self _ _)
    · exact hit_on h (on_self' _ _)
    · have c1 : InB a b c d ⟨a, b⟩ := by unfold InB; simp only; omega
      have c2 : InB a b c d ⟨c, b⟩ := by unfold InB; simp only; omega
      have c3 : InB a b c d ⟨c, d⟩ := by unfold InB; simp only; omega
      have c4 : InB a b c d ⟨a, d⟩ := by unfold InB; simp only; omega
      rcases h with h | h | h | h
      · exact hit_meet c1 c2 h
      · exact hit_meet c2 c3 h
      · exact hit_meet c3 c4 h
      · exact hit_meet c4 c1 h

/-- what meets a box within a box meets that box -/
theorem hit_in {a b c d a' b' c' d' : Int} {p q : Pt} (hac : a' ≤ c') (hbd : b' ≤ d') (h1 : InB a b c d ⟨a', b'⟩) (h2 : InB a b c d ⟨c', d'⟩) (h : Hit a' b' c' d' p q) : Hit a b c d p q := by
  obtain ⟨ho, k1, k2⟩ := h
  have f : ∀ p q : Pt, Pos a b c d p q → Pos a' b' c' d' p q := fun p q k =>
    ⟨pos_in k h1, pos_in k (by unfold InB at *; simp only at *; omega), pos_in k h2, pos_in k (by unfold InB at *; simp only at *; omega)⟩
  exact ⟨by unfold Over at *; unfold InB at *; simp only at *; omega, fun e => k1 (f _ _ e), fun e => k2 (f _ _ e)⟩

/-- a box of one place is met just by the ways that the place is on -/
theorem hit_one {u p q : Pt} : Hit u.x u.y u.x u.y p q ↔ On u p q := by
  constructor
  · rintro ⟨ho, h1, h2⟩
    unfold Pos at h1 h2
    rw [show cr q p ⟨u.x, u.y⟩ = - cr p q u from cr_swap p q u] at h2
    have e : cr p q ⟨u.x, u.y⟩ = cr p q u := rfl
    rw [e] at h1
    unfold Over at ho
    exact ⟨by omega, by omega, by omega, by omega, by omega⟩
  · intro h; exact hit_on ⟨⟨Int.le_refl _, Int.le_refl _⟩, Int.le_refl _, Int.le_refl _⟩ h

end Go.Proofs.Ytjmibjmlihmglaa.Geo
