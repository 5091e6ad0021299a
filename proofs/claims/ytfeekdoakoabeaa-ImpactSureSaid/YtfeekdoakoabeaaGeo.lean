/- Plane geometry over whole numbers: turns, ways, where ways meet, and the parity of crossings along a way that meets no edge. -/
import Derived.Test.YtfeekdoakoabeaaGeoBase
namespace Go.Proofs.Ytfeekdoakoabeaa.Geo
theorem cr_swap (a b c : Pt) : cr b a c = - cr a b c := by unfold cr; grind
theorem fourP (p q a b : Pt) : cr p q b * (a.y - p.y) - cr p q a * (b.y - p.y) = cr a b p * (q.y - p.y) := by unfold cr; grind
theorem fourQ (p q a b : Pt) : cr p q b * (a.y - q.y) - cr p q a * (b.y - q.y) = cr a b q * (q.y - p.y) := by unfold cr; grind
theorem fourA (p q a b : Pt) : cr p q a * (b.y - a.y) = cr a b q * (p.y - a.y) - cr a b p * (q.y - a.y) := by unfold cr; grind
theorem fourB (p q a b : Pt) : cr p q b * (b.y - a.y) = cr a b q * (p.y - b.y) - cr a b p * (q.y - b.y) := by unfold cr; grind
theorem on_swap (p a b : Pt) (h : On p a b) : On p b a := by
  unfold On at *; rw [cr_swap]; omega
theorem on_swap' (p a b : Pt) : On p a b ↔ On p b a := ⟨on_swap p a b, on_swap p b a⟩
theorem meet_swap (a b c d : Pt) (h : Meet a b c d) : Meet a b d c := by
  unfold Meet Opp at *
  rw [cr_swap c d a, cr_swap c d b, on_swap' a d c, on_swap' b d c]
  rcases h with h | h | h | h | ⟨h1, h2⟩
  · exact .inl h
  · exact .inr (.inl h)
  · exact .inr (.inr (.inr (.inl h)))
  · exact .inr (.inr (.inl h))
  · exact .inr (.inr (.inr (.inr ⟨by omega, by omega⟩)))
theorem between_x (px py qx qy vx vy : Int) (h : (qx - px) * (vy - py) = (qy - py) * (vx - px)) (hD : py < qy) (h1 : py ≤ vy) (h2 : vy ≤ qy) :
    min px qx ≤ vx ∧ vx ≤ max px qx := by
  have key : ∀ (d D t u : Int), 0 < D → 0 ≤ t → t ≤ D → d * t = D * u → 0 ≤ d → 0 ≤ u ∧ u ≤ d := by
    intro d D t u hD ht1 ht2 he hd
    have e1 : 0 ≤ d * t := Int.mul_nonneg hd ht1
    have e2 : 0 ≤ d * (D - t) := Int.mul_nonneg hd (by omega)
    constructor
    · apply Int.not_lt.mp
      intro hu
      have : 0 < D * (-u) := Int.mul_pos hD (by omega)
      grind
    · apply Int.not_lt.mp
      intro hu
      have : 0 < D * (u - d) := Int.mul_pos hD (by omega)
      grind
  by_cases hd : px ≤ qx
  · have := key (qx - px) (qy - py) (vy - py) (vx - px) (by omega) (by omega) (by omega) h (by omega)
    omega
  · have := key (px - qx) (qy - py) (vy - py) (px - vx) (by omega) (by omega) (by omega) (by grind) (by omega)
    omega
theorem on_of_line (p q v : Pt) (h : cr p q v = 0) (hD : p.y < q.y) (h1 : p.y ≤ v.y) (h2 : v.y ≤ q.y) : On v p q := by
  unfold On
  have := between_x p.x p.y q.x q.y v.x v.y (by unfold cr at h; omega) hD h1 h2
  exact ⟨h, this.1, this.2, by omega, by omega⟩
theorem pos_of {x d : Int} (hd : 0 < d) (h : 0 < x * d) : 0 < x := by
  apply Int.not_le.mp; intro hx
  have := Int.mul_nonneg (show 0 ≤ -x by omega) (Int.le_of_lt hd)
  grind
theorem nonneg_of {x d : Int} (hd : 0 < d) (h : 0 ≤ x * d) : 0 ≤ x := by
  apply Int.not_lt.mp; intro hx
  have := Int.mul_pos (show 0 < -x by omega) hd
  grind
theorem neg_of {x d : Int} (hd : 0 < d) (h : x * d < 0) : x < 0 := by
  apply Int.not_le.mp; intro hx
  have := Int.mul_nonneg hx (Int.le_of_lt hd)
  grind
theorem nonpos_of {x d : Int} (hd : 0 < d) (h : x * d ≤ 0) : x ≤ 0 := by
  apply Int.not_lt.mp; intro hx
  have := Int.mul_pos hx hd
  grind
def cross (a b p : Pt) : Bool :=
  if b.y < a.y then (decide (b.y ≤ p.y) && decide (p.y < a.y) && decide (0 < cr b a p))
  else (decide (a.y ≤ p.y) && decide (p.y < b.y) && decide (0 < cr a b p))
def reg (p q v : Pt) : Bool := decide (p.y < v.y) && decide (v.y ≤ q.y) && decide (cr p q v < 0)
theorem meet_MM (p q a b : Pt) (ha : p.y < a.y) (ha' : a.y ≤ q.y) (hb : p.y < b.y) (hb' : b.y ≤ q.y)
    (hA : cr p q a < 0) (hB : 0 < cr p q b) : Meet p q a b := by
  have f2 := fourP p q a b
  have f3 := fourQ p q a b
  have e1 := Int.mul_pos hB (show 0 < a.y - p.y by omega)
  have e2 := Int.mul_pos (show 0 < -cr p q a by omega) (show 0 < b.y - p.y by omega)
  have hP : 0 < cr a b p := pos_of (d := q.y - p.y) (by omega) (by grind)
  have e3 := Int.mul_nonneg (Int.le_of_lt hB) (show 0 ≤ q.y - a.y by omega)
  have e4 := Int.mul_nonneg (show 0 ≤ -cr p q a by omega) (show 0 ≤ q.y - b.y by omega)
  have hQ : cr a b q ≤ 0 := nonpos_of (d := q.y - p.y) (by omega) (by grind)
  by_cases hQ0 : cr a b q = 0
  · have g1 : a.y = q.y := by
      apply Classical.byContradiction; intro hne
      have := Int.mul_pos hB (show 0 < q.y - a.y by omega)
      rw [hQ0] at f3; grind
    have g2 : b.y = q.y := by
      apply Classical.byContradiction; intro hne
      have := Int.mul_pos (show 0 < -cr p q a by omega) (show 0 < q.y - b.y by omega)
      rw [hQ0] at f3; grind
    have h1 : cr p q a = (q.x - a.x) * (q.y - p.y) := by unfold cr; rw [g1]; grind
    have h2 : cr p q b = (q.x - b.x) * (q.y - p.y) := by unfold cr; rw [g2]; grind
    have h3 := neg_of (x := q.x - a.x) (d := q.y - p.y) (by omega) (by omega)
    have h4 := pos_of (x := q.x - b.x) (d := q.y - p.y) (by omega) (by omega)
    refine .inr (.inl ⟨hQ0, ?_⟩)
    omega
  · exact .inr (.inr (.inr (.inr ⟨.inl ⟨hA, hB⟩, .inr ⟨hP, by omega⟩⟩)))
theorem core_MM (p q a b : Pt) (ha : p.y < a.y) (ha' : a.y ≤ q.y) (hb : p.y < b.y) (hb' : b.y ≤ q.y)
    (hm : ¬ Meet p q a b) : (cr p q a < 0 ↔ cr p q b < 0) := by
  have nA : cr p q a ≠ 0 := fun h => hm (.inr (.inr (.inl (on_of_line p q a h (by omega) (by omega) ha'))))
  have nB : cr p q b ≠ 0 := fun h => hm (.inr (.inr (.inr (.inl (on_of_line p q b h (by omega) (by omega) hb')))))
  have h1 : ¬ (cr p q a < 0 ∧ 0 < cr p q b) := fun h => hm (meet_MM p q a b ha ha' hb hb' h.1 h.2)
  have h2 : ¬ (cr p q b < 0 ∧ 0 < cr p q a) := fun h => hm (meet_swap _ _ _ _ (meet_MM p q b a hb hb' ha ha' h.1 h.2))
  omega
theorem core_LM (p q a b : Pt) (ha : a.y ≤ p.y) (hb : p.y < b.y) (hb' : b.y ≤ q.y)
    (hm : ¬ Meet p q a b) : (0 < cr a b p ↔ cr p q b < 0) := by
  have nB : cr p q b ≠ 0 := fun h => hm (.inr (.inr (.inr (.inl (on_of_line p q b h (by omega) (by omega) hb')))))
  have nP : cr a b p ≠ 0 := fun h => hm (.inl (on_of_line a b p h (by omega) (by omega) (by omega)))
  have f2 := fourP p q a b
  have f3 := fourQ p q a b
  constructor
  · intro hP
    apply Classical.byContradiction; intro hB
    have hB : 0 < cr p q b := by omega
    have e1 := Int.mul_nonneg (Int.le_of_lt hB) (show 0 ≤ p.y - a.y by omega)
    have e2 := Int.mul_pos hP (show 0 < q.y - p.y by omega)
    have hA : cr p q a < 0 := neg_of (d := b.y - p.y) (by omega) (by grind)
    have e3 := Int.mul_pos hB (show 0 < q.y - a.y by omega)
    have e4 := Int.mul_nonneg (show 0 ≤ -cr p q a by omega) (show 0 ≤ q.y - b.y by omega)
    have hQ : cr a b q < 0 := neg_of (d := q.y - p.y) (by omega) (by grind)
    exact hm (.inr (.inr (.inr (.inr ⟨.inl ⟨hA, hB⟩, .inr ⟨hP, hQ⟩⟩))))
  · intro hB
    apply Classical.byContradiction; intro hP
    have hP : cr a b p < 0 := by omega
    have e1 := Int.mul_nonneg (show 0 ≤ - cr p q b by omega) (show 0 ≤ p.y - a.y by omega)
    have e2 := Int.mul_pos (show 0 < - cr a b p by omega) (show 0 < q.y - p.y by omega)
    have hA : 0 < cr p q a := pos_of (d := b.y - p.y) (by omega) (by grind)
    have e3 := Int.mul_pos (show 0 < - cr p q b by omega) (show 0 < q.y - a.y by omega)
    have e4 := Int.mul_nonneg (Int.le_of_lt hA) (show 0 ≤ q.y - b.y by omega)
    have hQ : 0 < cr a b q := pos_of (d := q.y - p.y) (by omega) (by grind)
    exact hm (.inr (.inr (.inr (.inr ⟨.inr ⟨hA, hB⟩, .inl ⟨hP, hQ⟩⟩))))
theorem core_MH (p q a b : Pt) (ha : p.y < a.y) (ha' : a.y ≤ q.y) (hb : q.y < b.y)
    (hm : ¬ Meet p q a b) : (0 < cr a b q ↔ cr p q a < 0) := by
  have nA : cr p q a ≠ 0 := fun h => hm (.inr (.inr (.inl (on_of_line p q a h (by omega) (by omega) ha'))))
  have nQ : cr a b q ≠ 0 := fun h => hm (.inr (.inl (on_of_line a b q h (by omega) (by omega) (by omega))))
  have f2 := fourP p q a b
  have f3 := fourQ p q a b
  constructor
  · intro hQ
    apply Classical.byContradiction; intro hA
    have hA : 0 < cr p q a := by omega
    have e1 := Int.mul_nonneg (Int.le_of_lt hA) (show 0 ≤ b.y - q.y by omega)
    have e2 := Int.mul_pos hQ (show 0 < q.y - p.y by omega)
    have hB : cr p q b < 0 := by
      apply Int.not_le.mp; intro hB
      have := Int.mul_nonneg hB (show 0 ≤ q.y - a.y by omega)
      grind
    have e3 := Int.mul_pos hA (show 0 < b.y - p.y by omega)
    have e4 := Int.mul_pos (show 0 < - cr p q b by omega) (show 0 < a.y - p.y by omega)
    have hP : cr a b p < 0 := neg_of (d := q.y - p.y) (by omega) (by grind)
    exact hm (.inr (.inr (.inr (.inr ⟨.inr ⟨hA, hB⟩, .inl ⟨hP, hQ⟩⟩))))
  · intro hA
    apply Classical.byContradiction; intro hQ
    have hQ : cr a b q < 0 := by omega
    have e1 := Int.mul_nonneg (show 0 ≤ - cr p q a by omega) (show 0 ≤ b.y - q.y by omega)
    have e2 := Int.mul_pos (show 0 < - cr a b q by omega) (show 0 < q.y - p.y by omega)
    have hB : 0 < cr p q b := by
      apply Int.not_le.mp; intro hB
      have := Int.mul_nonneg (show 0 ≤ - cr p q b by omega) (show 0 ≤ q.y - a.y by omega)
      grind
    have e3 := Int.mul_pos (show 0 < - cr p q a by omega) (show 0 < b.y - p.y by omega)
    have e4 := Int.mul_pos hB (show 0 < a.y - p.y by omega)
    have hP : 0 < cr a b p := pos_of (d := q.y - p.y) (by omega) (by grind)
    exact hm (.inr (.inr (.inr (.inr ⟨.inl ⟨hA, hB⟩, .inr ⟨hP, hQ⟩⟩))))
theorem core_LH1 (p q a b : Pt) (ha : a.y ≤ p.y) (hpq : p.y ≤ q.y) (hb : q.y < b.y)
    (hP : 0 < cr a b p) (hQ : cr a b q < 0) : Meet p q a b := by
  have f4 := fourA p q a b
  have f5 := fourB p q a b
  have e1 := Int.mul_nonneg (show 0 ≤ - cr a b q by omega) (show 0 ≤ p.y - a.y by omega)
  have e2 := Int.mul_nonneg (Int.le_of_lt hP) (show 0 ≤ q.y - a.y by omega)
  have hA : cr p q a ≤ 0 := nonpos_of (d := b.y - a.y) (by omega) (by grind)
  have e3 := Int.mul_pos (show 0 < - cr a b q by omega) (show 0 < b.y - p.y by omega)
  have e4 := Int.mul_pos hP (show 0 < b.y - q.y by omega)
  have hB : 0 < cr p q b := pos_of (d := b.y - a.y) (by omega) (by grind)
  by_cases hA0 : cr p q a = 0
  · have g1 : q.y = a.y := by
      apply Classical.byContradiction; intro hne
      have := Int.mul_pos hP (show 0 < q.y - a.y by omega)
      rw [hA0] at f4; grind
    have g2 : p.y = a.y := by omega
    have h1 : cr a b p = (a.x - p.x) * (b.y - a.y) := by unfold cr; rw [g2]; grind
    have h2 : cr a b q = (a.x - q.x) * (b.y - a.y) := by unfold cr; rw [g1]; grind
    have h3 := pos_of (x := a.x - p.x) (d := b.y - a.y) (by omega) (by omega)
    have h4 := neg_of (x := a.x - q.x) (d := b.y - a.y) (by omega) (by omega)
    refine .inr (.inr (.inl ⟨hA0, ?_⟩))
    omega
  · exact .inr (.inr (.inr (.inr ⟨.inl ⟨by omega, hB⟩, .inr ⟨hP, hQ⟩⟩)))
theorem core_LH (p q a b : Pt) (ha : a.y ≤ p.y) (hpq : p.y ≤ q.y) (hb : q.y < b.y)
    (hm : ¬ Meet p q a b) : (0 < cr a b p ↔ 0 < cr a b q) := by
  have nP : cr a b p ≠ 0 := fun h => hm (.inl (on_of_line a b p h (by omega) (by omega) (by omega)))
  have nQ : cr a b q ≠ 0 := fun h => hm (.inr (.inl (on_of_line a b q h (by omega) (by omega) (by omega))))
  have h1 : ¬ (0 < cr a b p ∧ cr a b q < 0) := fun h => hm (core_LH1 p q a b ha hpq hb h.1 h.2)
  have h2 : ¬ (cr a b p < 0 ∧ 0 < cr a b q) := fun h => by
    have f4 := fourA p q a b
    have f5 := fourB p q a b
    have e1 := Int.mul_nonneg (show 0 ≤ cr a b q by omega) (show 0 ≤ p.y - a.y by omega)
    have e2 := Int.mul_nonneg (show 0 ≤ - cr a b p by omega) (show 0 ≤ q.y - a.y by omega)
    have hA : 0 ≤ cr p q a := nonneg_of (d := b.y - a.y) (by omega) (by grind)
    have e3 := Int.mul_pos (show 0 < cr a b q by omega) (show 0 < b.y - p.y by omega)
    have e4 := Int.mul_pos (show 0 < - cr a b p by omega) (show 0 < b.y - q.y by omega)
    have hB : cr p q b < 0 := neg_of (d := b.y - a.y) (by omega) (by grind)
    by_cases hA0 : cr p q a = 0
    · have g1 : q.y = a.y := by
        apply Classical.byContradiction; intro hne
        have := Int.mul_pos (show 0 < - cr a b p by omega) (show 0 < q.y - a.y by omega)
        rw [hA0] at f4; grind
      have g2 : p.y = a.y := by omega
      have h1 : cr a b p = (a.x - p.x) * (b.y - a.y) := by unfold cr; rw [g2]; grind
      have h2 : cr a b q = (a.x - q.x) * (b.y - a.y) := by unfold cr; rw [g1]; grind
      have h3 := neg_of (x := a.x - p.x) (d := b.y - a.y) (by omega) (by omega)
      have h4 := pos_of (x := a.x - q.x) (d := b.y - a.y) (by omega) (by omega)
      refine hm (.inr (.inr (.inl ⟨hA0, ?_⟩)))
      omega
    · exact hm (.inr (.inr (.inr (.inr ⟨.inr ⟨by omega, hB⟩, .inl ⟨h.1, h.2⟩⟩))))
  omega
theorem xor_iff {a b c d : Prop} [Decidable a] [Decidable b] [Decidable c] [Decidable d] (h : ((a ↔ b) ↔ (c ↔ d))) :
    (decide a ^^ decide b) = (decide c ^^ decide d) := by
  by_cases ha : a <;> by_cases hb : b <;> by_cases hc : c <;> by_cases hd : d <;> simp_all
theorem edge_up (p q a b : Pt) (hpq : p.y ≤ q.y) (hab : a.y ≤ b.y) (hm : ¬ Meet p q a b) :
    (cross a b p ^^ cross a b q) = (reg p q a ^^ reg p q b) := by
  unfold cross reg
  rw [if_neg (by omega), if_neg (by omega)]
  simp only [← Bool.decide_and]
  apply xor_iff
  by_cases ha : a.y ≤ p.y
  · by_cases hb : b.y ≤ p.y
    · omega
    · by_cases hb' : b.y ≤ q.y
      · have := core_LM p q a b ha (by omega) hb' hm; omega
      · have := core_LH p q a b ha hpq (by omega) hm; omega
  · by_cases ha' : a.y ≤ q.y
    · by_cases hb' : b.y ≤ q.y
      · have := core_MM p q a b (by omega) ha' (by omega) hb' hm; omega
      · have := core_MH p q a b (by omega) ha' (by omega) hm; omega
    · omega
theorem cross_swap (a b p : Pt) : cross a b p = cross b a p := by
  unfold cross
  by_cases h1 : b.y < a.y
  · rw [if_pos h1, if_neg (by omega)]
  · by_cases h2 : a.y < b.y
    · rw [if_neg h1, if_pos h2]
    · rw [if_neg h1, if_neg h2]
      have : ¬ (p.y < b.y ∧ a.y ≤ p.y) := by omega
      have : ¬ (p.y < a.y ∧ b.y ≤ p.y) := by omega
      simp only [← Bool.decide_and]
      congr 1
      apply propext; omega
theorem edge (p q a b : Pt) (hpq : p.y ≤ q.y) (hm : ¬ Meet p q a b) :
    (cross a b p ^^ cross a b q) = (reg p q a ^^ reg p q b) := by
  by_cases hab : a.y ≤ b.y
  · exact edge_up p q a b hpq hab hm
  · rw [cross_swap a b p, cross_swap a b q, Bool.xor_comm (reg p q a)]
    exact edge_up p q b a hpq (by omega) (fun h => hm (meet_swap _ _ _ _ h))
end Go.Proofs.Ytfeekdoakoabeaa.Geo
