/- Places, turns, ways and where ways meet: the program's and the reference's answers are those of plane geometry. -/
import Derived.Test.YtjmibjmlihmglaaGx0
import Derived.Test.YtjmibjmlihmglaaGx12
import Derived.Test.YtjmibjmlihmglaaGx14
import Derived.Test.YtjmibjmlihmglaaGx15
import Derived.Test.YtjmibjmlihmglaaGx16
import Derived.Test.YtjmibjmlihmglaaGx3
import Derived.Test.YtjmibjmlihmglaaGx4
import Derived.Test.YtjmibjmlihmglaaGx5
import Derived.Test.YtjmibjmlihmglaaGx6
import Derived.Test.YtjmibjmlihmglaaArith
import Derived.Test.YtjmibjmlihmglaaWideBase
import Derived.Test.YtjmibjmlihmglaaWide128
import Derived.Test.YtjmibjmlihmglaaWideMul
import Derived.Test.YtjmibjmlihmglaaGeoBase
namespace Go.Proofs.Ytjmibjmlihmglaa.Q
open Go.RowKit Go.Proofs.Ytjmibjmlihmglaa.G Go.Proofs.Ytjmibjmlihmglaa.Geo Go.Proofs.YtjmibjmlihmglaaW.PrintWords Go.Proofs.YtjmibjmlihmglaaW.PrintLast Go.Proofs.YtjmibjmlihmglaaW.PrintMore
set_option linter.unusedVariables false
set_option linter.unusedSimpArgs false
def pt (p : S41) : Pt := ⟨p.f0, p.f1⟩
theorem point_within (n : Int) : point_within.f n = some (decide (-1099511627776 ≤ n ∧ n ≤ 1099511627776)) := by
  unfold point_within.f
  by_cases h : n ≥ -1099511627776
  · rw [if_pos h]; congr 1; apply decide_eq_decide.mpr; omega
  · rw [if_neg h]; congr 1; symm; apply decide_eq_false; omega
theorem point_right_one (p : Pt) : point_Right.f p.x p.y = some (decide (Ok p)) := by
  unfold point_Right.f Ok
  rw [point_within, point_within]
  simp only [Option.bind_some, decide_eq_true_eq]
  by_cases h : -1099511627776 ≤ p.x ∧ p.x ≤ 1099511627776
  · rw [if_pos h]; congr 1; apply decide_eq_decide.mpr; omega
  · rw [if_neg h]; congr 1; symm; apply decide_eq_false; omega
theorem ref_right_one (p : Pt) : apogeeref10_Right.f p.x p.y = some (decide (Ok p)) := by
  unfold apogeeref10_Right.f Ok
  by_cases h1 : p.x ≥ -1099511627776
  · rw [if_pos h1]
    by_cases h2 : p.x ≤ 1099511627776
    · rw [if_pos h2]
      by_cases h3 : p.y ≥ -1099511627776
      · rw [if_pos h3]; congr 1; apply decide_eq_decide.mpr; omega
      · rw [if_neg h3]; congr 1; symm; apply decide_eq_false; omega
    · rw [if_neg h2]; congr 1; symm; apply decide_eq_false; omega
  · rw [if_neg h1]; congr 1; symm; apply decide_eq_false; omega
theorem right_1 (p : S41) : point_right_1.f p.f0 p.f1 = some (!decide (Ok (pt p))) := by
  unfold point_right_1.f
  show ((point_Right.f (pt p).x (pt p).y).bind fun t => some (!t)) = _
  rw [point_right_one (pt p)]; rfl
theorem rd_at (l : List S41) (i : Nat) (h : i < l.length) : rd_T41 l i = l[i] := by
  unfold rd_T41
  rw [Int.toNat_natCast, List.getD_eq_getElem?_getD, List.getElem?_eq_getElem h]; rfl
theorem idx_loop (l : List S41) (hl : l.length ≤ 4611686018427387904) (d : Nat) : ∀ i : Nat, i + d = l.length →
    ∃ r : Int, Ev (fun k => slices_IndexFunc_Point_F_point_right_1.l0 k l l.length i) r ∧ (r ≥ 0 ↔ ¬ ∀ p ∈ l.drop i, Ok (pt p)) := by
  induction d with
  | zero =>
    intro i hi
    refine ⟨-1, Ev.step (f := fun _ => some (-1)) (fun k => ?_) (Ev.now _), ?_⟩
    · simp only [slices_IndexFunc_Point_F_point_right_1.l0]; rw [if_neg (by omega)]
    · rw [List.drop_of_length_le (by omega)]; simp
  | succ d ih =>
    intro i hi
    have hlt : i < l.length := by omega
    obtain ⟨r, hr, hs⟩ := ih (i + 1) (by omega)
    have hd : l.drop i = l[i] :: l.drop (i + 1) := List.drop_eq_getElem_cons hlt
    by_cases c : Ok (pt l[i])
    · refine ⟨r, Ev.step (f := fun k => slices_IndexFunc_Point_F_point_right_1.l0 k l l.length ((i + 1 : Nat) : Int)) (fun k => ?_) hr, ?_⟩
      · simp only [slices_IndexFunc_Point_F_point_right_1.l0]
        rw [if_pos (by omega), if_pos (by omega), if_pos (by omega), rd_at l i hlt, right_1, decide_eq_true c]
        simp only [Option.bind_some, Bool.not_true]
        rw [w64 (by omega) (by omega)]; rfl
      · rw [hs, hd, List.forall_mem_cons]; exact not_congr ⟨fun h => ⟨c, h⟩, fun h => h.2⟩
    · refine ⟨i, Ev.step (f := fun _ => some (i : Int)) (fun k => ?_) (Ev.now _), ?_⟩
      · simp only [slices_IndexFunc_Point_F_point_right_1.l0]
        rw [if_pos (by omega), if_pos (by omega), if_pos (by omega), rd_at l i hlt, right_1, decide_eq_false c]
        rfl
      · rw [hd, List.forall_mem_cons]; exact ⟨fun _ h => c h.1, fun _ => by omega⟩
theorem right_ev (l : List S41) (hl : l.length ≤ 4611686018427387904) : Ev (fun k => point_right.f k l) (decide (∀ p ∈ l, Ok (pt p))) := by
  obtain ⟨r, hr, hs⟩ := idx_loop l hl l.length 0 (by omega)
  rw [List.drop_zero] at hs
  have hc : Ev (fun k => slices_ContainsFunc_Point_F_point_right_1.f k l) (decide (r ≥ 0)) :=
    Ev.congr (f := fun k => (slices_IndexFunc_Point_F_point_right_1.l0 k l l.length 0).bind fun t => some (decide (t ≥ 0))) (fun k => rfl) (Ev.bind hr (Ev.now _))
  have e : (decide (∀ p ∈ l, Ok (pt p))) = !decide (r ≥ 0) := by
    by_cases c : ∀ p ∈ l, Ok (pt p)
    · rw [decide_eq_true c, decide_eq_false (by rw [hs]; exact fun h => h c)]; rfl
    · rw [decide_eq_false c, decide_eq_true (by rw [hs]; exact c)]; rfl
  rw [e]
  exact Ev.congr (f := fun k => (slices_ContainsFunc_Point_F_point_right_1.f k l).bind fun t => some (!t)) (fun k => rfl) (Ev.bind hc (Ev.now _))
theorem right3_ev (a b c : Pt) : Ev (fun k => point_right.f k [⟨a.x, a.y⟩, ⟨b.x, b.y⟩, ⟨c.x, c.y⟩]) (decide (Ok a ∧ Ok b ∧ Ok c)) := by
  have h := right_ev [⟨a.x, a.y⟩, ⟨b.x, b.y⟩, ⟨c.x, c.y⟩] (by simp)
  have e : decide (∀ p ∈ ([⟨a.x, a.y⟩, ⟨b.x, b.y⟩, ⟨c.x, c.y⟩] : List S41), Ok (pt p)) = decide (Ok a ∧ Ok b ∧ Ok c) := by
    apply decide_eq_decide.mpr; simp [pt]
  rw [e] at h; exact h
theorem right4_ev (a b c d : Pt) : Ev (fun k => point_right.f k [⟨a.x, a.y⟩, ⟨b.x, b.y⟩, ⟨c.x, c.y⟩, ⟨d.x, d.y⟩]) (decide (Ok a ∧ Ok b ∧ Ok c ∧ Ok d)) := by
  have h := right_ev [⟨a.x, a.y⟩, ⟨b.x, b.y⟩, ⟨c.x, c.y⟩, ⟨d.x, d.y⟩] (by simp)
  have e : decide (∀ p ∈ ([⟨a.x, a.y⟩, ⟨b.x, b.y⟩, ⟨c.x, c.y⟩, ⟨d.x, d.y⟩] : List S41), Ok (pt p)) = decide (Ok a ∧ Ok b ∧ Ok c ∧ Ok d) := by
    apply decide_eq_decide.mpr; simp [pt]
  rw [e] at h; exact h
theorem prod_bound (x y : Int) (hx : -2199023255552 ≤ x ∧ x ≤ 2199023255552) (hy : -2199023255552 ≤ y ∧ y ≤ 2199023255552) : -4835703278458516698824704 ≤ x * y ∧ x * y ≤ 4835703278458516698824704 := by
  have key : ∀ a b : Int, 0 ≤ a → a ≤ 2199023255552 → 0 ≤ b → b ≤ 2199023255552 → 0 ≤ a * b ∧ a * b ≤ 4835703278458516698824704 := fun a b h1 h2 h3 h4 =>
    ⟨Int.mul_nonneg h1 h3, Int.mul_le_mul h2 h4 h3 (by decide)⟩
  by_cases c1 : 0 ≤ x <;> by_cases c2 : 0 ≤ y
  · have := key x y c1 hx.2 c2 hy.2; omega
  · have := key x (-y) c1 hx.2 (by omega) (by omega)
    have e : x * -y = -(x * y) := by grind
    omega
  · have := key (-x) y (by omega) (by omega) c2 hy.2
    have e : -x * y = -(x * y) := by grind
    omega
  · have := key (-x) (-y) (by omega) (by omega) (by omega) (by omega)
    have e : -x * -y = x * y := by grind
    omega
theorem sg_cr (a b c : Pt) : sg ((b.x - a.x) * (c.y - a.y)) ((b.y - a.y) * (c.x - a.x)) = sgn (cr a b c) := by
  unfold sg sgn cr
  generalize (b.x - a.x) * (c.y - a.y) = p
  generalize (b.y - a.y) * (c.x - a.x) = q
  by_cases h1 : p < q
  · rw [if_pos h1, if_pos (by omega)]
  · by_cases h2 : p = q
    · rw [if_neg h1, if_pos h2, if_neg (by omega), if_pos (by omega)]
    · rw [if_neg h1, if_neg h2, if_neg (by omega), if_neg (by omega)]
theorem turn_ev (a b c : Pt) : Ev (fun k => point_Turn.f k a.x a.y b.x b.y c.x c.y) (turnS a b c) := by
  refine Ev.congr (f := fun k => (point_right.f k [⟨a.x, a.y⟩, ⟨b.x, b.y⟩, ⟨c.x, c.y⟩]).bind fun t => (if t = true then ((wide_Mul.f (wrap64 (b.x - a.x)) (wrap64 (c.y - a.y))).bind fun bt => ((wide_Mul.f (wrap64 (b.y - a.y)) (wrap64 (c.x - a.x))).bind fun bu => ((wide_Wide_Cmp.f k bt.1 bt.2 bu.1 bu.2).bind fun t => (some t)))) else (some 0))) (fun k => rfl) (Ev.bind (right3_ev a b c) ?_)
  unfold turnS
  by_cases h : Ok a ∧ Ok b ∧ Ok c
  · rw [if_pos h, decide_eq_true h]
    obtain ⟨ha, hb, hc⟩ := h
    unfold Ok at ha hb hc
    have b1 := prod_bound (b.x - a.x) (c.y - a.y) (by omega) (by omega)
    have b2 := prod_bound (b.y - a.y) (c.x - a.x) (by omega) (by omega)
    refine Ev.congr (f := fun k => (wide_Wide_Cmp.f k (pw ((b.x - a.x) * (c.y - a.y))).1 (pw ((b.x - a.x) * (c.y - a.y))).2 (pw ((b.y - a.y) * (c.x - a.x))).1 (pw ((b.y - a.y) * (c.x - a.x))).2).bind fun t => (some t)) (fun k => ?_) (Ev.bind (cmp_ev _ _ (by unfold Wd; omega) (by unfold Wd; omega)) ?_)
    · rw [if_pos rfl, w64 (x := b.x - a.x) (by omega) (by omega), w64 (x := c.y - a.y) (by omega) (by omega), w64 (x := b.y - a.y) (by omega) (by omega), w64 (x := c.x - a.x) (by omega) (by omega),
        mul_plain _ _ (by unfold Hi; omega) (by unfold Hi; omega), mul_plain _ _ (by unfold Hi; omega) (by unfold Hi; omega)]
      rfl
    · rw [sg_cr]; exact Ev.now _
  · rw [if_neg h, decide_eq_false h]
    exact Ev.congr (f := fun _ => some 0) (fun k => rfl) (Ev.now _)
theorem short_plain (n : Int) : apogeeref10_short.f n = some (decide (-2147483648 < n ∧ n < 2147483648)) := by
  unfold apogeeref10_short.f
  by_cases h : n > -2147483648
  · rw [if_pos h]; congr 1; apply decide_eq_decide.mpr; omega
  · rw [if_neg h]; congr 1; symm; apply decide_eq_false; omega
theorem short_prod (x y : Int) (hx : -2147483648 < x ∧ x < 2147483648) (hy : -2147483648 < y ∧ y < 2147483648) : -4611686018427387904 ≤ x * y ∧ x * y ≤ 4611686018427387904 := by
  have key : ∀ a b : Int, 0 ≤ a → a ≤ 2147483648 → 0 ≤ b → b ≤ 2147483648 → 0 ≤ a * b ∧ a * b ≤ 4611686018427387904 := fun a b h1 h2 h3 h4 =>
    ⟨Int.mul_nonneg h1 h3, Int.mul_le_mul h2 h4 h3 (by decide)⟩
  by_cases c1 : 0 ≤ x <;> by_cases c2 : 0 ≤ y
  · have := key x y c1 (by omega) c2 (by omega); omega
  · have := key x (-y) c1 (by omega) (by omega) (by omega)
    have e : x * -y = -(x * y) := by grind
    omega
  · have := key (-x) y (by omega) (by omega) c2 (by omega)
    have e : -x * y = -(x * y) := by grind
    omega
  · have := key (-x) (-y) (by omega) (by omega) (by omega) (by omega)
    have e : -x * -y = x * y := by grind
    omega
theorem ref_turn_j1 (p q r s : Int) (t : Bool) (hp : -2199023255552 ≤ p ∧ p ≤ 2199023255552) (hq : -2199023255552 ≤ q ∧ q ≤ 2199023255552) (hr : -2199023255552 ≤ r ∧ r ≤ 2199023255552) (hs : -2199023255552 ≤ s ∧ s ≤ 2199023255552)
    (ht : t = true → (-2147483648 < p ∧ p < 2147483648) ∧ (-2147483648 < q ∧ q < 2147483648) ∧ (-2147483648 < r ∧ r < 2147483648) ∧ (-2147483648 < s ∧ s < 2147483648)) :
    Ev (fun k => apogeeref10_Turn.j1 k p q r s t) (sg (p * q) (r * s)) := by
  have b1 := prod_bound p q hp hq
  have b2 := prod_bound r s hr hs
  cases t with
  | true =>
    obtain ⟨h1, h2, h3, h4⟩ := ht rfl
    have s1 := short_prod p q h1 h2
    have s2 := short_prod r s h3 h4
    refine Ev.step (f := fun _ => some (sg (p * q) (r * s))) (fun k => ?_) (Ev.now _)
    simp only [apogeeref10_Turn.j1]
    rw [if_pos trivial, w64 (x := p * q) (by omega) (by omega), w64 (x := r * s) (by omega) (by omega)]
    unfold sg
    generalize p * q = u
    generalize r * s = v
    by_cases c1 : u < v
    · rw [if_pos c1, if_pos c1]
    · by_cases c2 : u = v
      · rw [if_neg c1, if_neg c1, if_neg (by omega), if_pos c2]
      · rw [if_neg c1, if_neg c1, if_pos (by omega), if_neg c2]
  | false =>
    refine Ev.step (f := fun k => (apogeeref01_Mul.f k p q).bind fun bt => ((apogeeref01_Mul.f k r s).bind fun bu => ((apogeeref01_Cmp.f k bt.1 bt.2 bu.1 bu.2).bind fun t => (some t)))) (fun k => ?_)
      (Ev.bind (ref_mul_ev p q (by unfold Hi; omega) (by unfold Hi; omega)) (Ev.bind (ref_mul_ev r s (by unfold Hi; omega) (by unfold Hi; omega)) (Ev.bind (ref_cmp_ev _ _ (by unfold Wd; omega) (by unfold Wd; omega)) (Ev.now _))))
    simp only [apogeeref10_Turn.j1]
    rw [if_neg (by decide)]
theorem ref_turn_ev (a b c : Pt) : Ev (fun k => apogeeref10_Turn.f k a.x a.y b.x b.y c.x c.y) (turnS a b c) := by
  have hz : Ev (fun k => apogeeref10_Turn.j0 k true a.x a.y b.x b.y c.x c.y) 0 :=
    Ev.step (f := fun _ => some 0) (fun k => by simp only [apogeeref10_Turn.j0]; rw [if_pos trivial]) (Ev.now _)
  unfold turnS
  by_cases ha : Ok a
  · by_cases hb : Ok b
    · by_cases hc : Ok c
      · rw [if_pos ⟨ha, hb, hc⟩]
        refine Ev.congr (f := fun k => apogeeref10_Turn.j0 k false a.x a.y b.x b.y c.x c.y) (fun k => ?_) ?_
        · unfold apogeeref10_Turn.f
          rw [ref_right_one a, ref_right_one b, ref_right_one c, decide_eq_true ha, decide_eq_true hb, decide_eq_true hc]; rfl
        unfold Ok at ha hb hc
        have e1 : wrap64 (b.x - a.x) = b.x - a.x := w64 (by omega) (by omega)
        have e2 : wrap64 (c.y - a.y) = c.y - a.y := w64 (by omega) (by omega)
        have e3 : wrap64 (b.y - a.y) = b.y - a.y := w64 (by omega) (by omega)
        have e4 : wrap64 (c.x - a.x) = c.x - a.x := w64 (by omega) (by omega)
        have J : ∀ t : Bool, (t = true → (-2147483648 < b.x - a.x ∧ b.x - a.x < 2147483648) ∧ (-2147483648 < c.y - a.y ∧ c.y - a.y < 2147483648) ∧ (-2147483648 < b.y - a.y ∧ b.y - a.y < 2147483648) ∧ (-2147483648 < c.x - a.x ∧ c.x - a.x < 2147483648)) →
            Ev (fun k => apogeeref10_Turn.j1 k (b.x - a.x) (c.y - a.y) (b.y - a.y) (c.x - a.x) t) (sgn (cr a b c)) := by
          intro t ht
          rw [← sg_cr]
          exact ref_turn_j1 _ _ _ _ t (by omega) (by omega) (by omega) (by omega) ht
        by_cases h1 : -2147483648 < b.x - a.x ∧ b.x - a.x < 2147483648
        · by_cases h2 : -2147483648 < c.y - a.y ∧ c.y - a.y < 2147483648
          · by_cases h3 : -2147483648 < b.y - a.y ∧ b.y - a.y < 2147483648
            · refine Ev.step (fun k => ?_) (J (decide (-2147483648 < c.x - a.x ∧ c.x - a.x < 2147483648)) (fun h4 => ⟨h1, h2, h3, of_decide_eq_true h4⟩))
              simp only [apogeeref10_Turn.j0]
              rw [if_neg (by decide), e1, e2, e3, e4]
              simp only [short_plain, Option.bind_some, decide_eq_true h1, decide_eq_true h2, decide_eq_true h3, if_true]
            · refine Ev.step (fun k => ?_) (J false (fun h => by cases h))
              simp only [apogeeref10_Turn.j0]
              rw [if_neg (by decide), e1, e2, e3, e4]
              simp only [short_plain, Option.bind_some, decide_eq_true h1, decide_eq_true h2, decide_eq_false h3, if_true]
              rfl
          · refine Ev.step (fun k => ?_) (J false (fun h => by cases h))
            simp only [apogeeref10_Turn.j0]
            rw [if_neg (by decide), e1, e2, e3, e4]
            simp only [short_plain, Option.bind_some, decide_eq_true h1, decide_eq_false h2, if_true]
            rfl
        · refine Ev.step (fun k => ?_) (J false (fun h => by cases h))
          simp only [apogeeref10_Turn.j0]
          rw [if_neg (by decide), e1, e2, e3, e4]
          simp only [short_plain, Option.bind_some, decide_eq_false h1]
          rfl
      · rw [if_neg (fun h => hc h.2.2)]
        refine Ev.congr (fun k => ?_) hz
        unfold apogeeref10_Turn.f
        rw [ref_right_one a, ref_right_one b, ref_right_one c, decide_eq_true ha, decide_eq_true hb, decide_eq_false hc]; rfl
    · rw [if_neg (fun h => hb h.2.1)]
      refine Ev.congr (fun k => ?_) hz
      unfold apogeeref10_Turn.f
      rw [ref_right_one a, ref_right_one b, decide_eq_true ha, decide_eq_false hb]; rfl
  · rw [if_neg (fun h => ha h.1)]
    refine Ev.congr (fun k => ?_) hz
    unfold apogeeref10_Turn.f
    rw [ref_right_one a, decide_eq_false ha]; rfl
theorem sgn_zero (z : Int) : sgn z = 0 ↔ z = 0 := by
  unfold sgn; split
  · omega
  · split <;> omega
theorem mx_max (a b : Int) : mx a b = max a b := by unfold mx; omega
theorem mn_min (a b : Int) : mn a b = min a b := by unfold mn; omega
theorem turnS_ok {a b c : Pt} (ha : Ok a) (hb : Ok b) (hc : Ok c) : turnS a b c = sgn (cr a b c) := by unfold turnS; rw [if_pos ⟨ha, hb, hc⟩]
theorem between_plain (n a b : Int) : point_between.f n a b = some (decide (min a b ≤ n ∧ n ≤ max a b)) := by
  unfold point_between.f
  rw [mn_min, mx_max]
  by_cases h : min a b ≤ n
  · rw [if_pos h]; congr 1; apply decide_eq_decide.mpr; omega
  · rw [if_neg h]; congr 1; symm; apply decide_eq_false; omega
theorem on_ev (p a b : Pt) : Ev (fun k => point_On.f k p.x p.y a.x a.y b.x b.y) (onS p a b) := by
  refine Ev.congr (f := fun k => (point_right.f k [⟨p.x, p.y⟩, ⟨a.x, a.y⟩, ⟨b.x, b.y⟩]).bind fun t => (if t = true then ((point_Turn.f k a.x a.y b.x b.y p.x p.y).bind fun u => (if u = 0 then ((point_between.f p.x a.x b.x).bind fun t249 => (if t249 = true then ((point_between.f p.y a.y b.y).bind fun t250 => (some t250)) else (some false))) else (some false))) else (some false))) (fun k => rfl) (Ev.bind (right3_ev p a b) ?_)
  unfold onS
  by_cases h : Ok p ∧ Ok a ∧ Ok b
  · obtain ⟨hp, ha, hb⟩ := h
    rw [decide_eq_true (show Ok p ∧ Ok a ∧ Ok b from ⟨hp, ha, hb⟩)]
    have ht := turn_ev a b p
    rw [turnS_ok ha hb hp] at ht
    refine Ev.congr (fun k => by rw [if_pos rfl]) (Ev.bind ht ?_)
    refine Ev.congr (f := fun _ => some (decide (Ok a ∧ Ok b ∧ Ok p ∧ On p a b))) (fun k => ?_) (Ev.now _)
    by_cases c : sgn (cr a b p) = 0
    · rw [if_pos c, between_plain, between_plain]
      have c' := (sgn_zero _).1 c
      simp only [Option.bind_some, decide_eq_true_eq]
      by_cases d : min a.x b.x ≤ p.x ∧ p.x ≤ max a.x b.x
      · rw [if_pos d]; congr 1; apply decide_eq_decide.mpr
        exact ⟨fun e => ⟨ha, hb, hp, c', d.1, d.2, e.1, e.2⟩, fun e => ⟨e.2.2.2.2.2.2.1, e.2.2.2.2.2.2.2⟩⟩
      · rw [if_neg d]; congr 1; symm; apply decide_eq_false
        exact fun e => d ⟨e.2.2.2.2.1, e.2.2.2.2.2.1⟩
    · rw [if_neg c]; congr 1; symm; apply decide_eq_false
      exact fun e => c ((sgn_zero _).2 e.2.2.2.1)
  · rw [decide_eq_false h, decide_eq_false (show ¬ (Ok a ∧ Ok b ∧ Ok p ∧ On p a b) from fun e => h ⟨e.2.2.1, e.1, e.2.1⟩)]
    exact Ev.congr (f := fun _ => some false) (fun k => rfl) (Ev.now _)
theorem ref_on_ev (p a b : Pt) : Ev (fun k => apogeeref10_On.f k p.x p.y a.x a.y b.x b.y) (onS p a b) := by
  have hfalse : ∀ (_ : ¬ (Ok a ∧ Ok b ∧ Ok p)), onS p a b = false := fun h => by unfold onS; exact decide_eq_false (fun e => h ⟨e.1, e.2.1, e.2.2.1⟩)
  by_cases ha : Ok a
  · by_cases hb : Ok b
    · by_cases hp : Ok p
      · have ht := ref_turn_ev a b p
        rw [turnS_ok ha hb hp] at ht
        refine Ev.congr (f := fun k => (apogeeref10_Turn.f k a.x a.y b.x b.y p.x p.y).bind fun t365 => (if t365 = 0 then (if p.x ≥ (mn a.x b.x) then (if p.x ≤ (mx a.x b.x) then (if p.y ≥ (mn a.y b.y) then (some (decide (p.y ≤ (mx a.y b.y)))) else (some false)) else (some false)) else (some false)) else (some false))) (fun k => ?_) (Ev.bind ht ?_)
        · unfold apogeeref10_On.f
          rw [ref_right_one a, ref_right_one b, ref_right_one p, decide_eq_true ha, decide_eq_true hb, decide_eq_true hp]; rfl
        refine Ev.congr (f := fun _ => some (onS p a b)) (fun k => ?_) (Ev.now _)
        unfold onS
        rw [mn_min, mx_max, mn_min, mx_max]
        by_cases c : sgn (cr a b p) = 0
        · rw [if_pos c]
          have c' := (sgn_zero _).1 c
          by_cases d1 : p.x ≥ min a.x b.x
          · rw [if_pos d1]
            by_cases d2 : p.x ≤ max a.x b.x
            · rw [if_pos d2]
              by_cases d3 : p.y ≥ min a.y b.y
              · rw [if_pos d3]; congr 1; apply decide_eq_decide.mpr
                exact ⟨fun e => ⟨ha, hb, hp, c', d1, d2, d3, e⟩, fun e => e.2.2.2.2.2.2.2⟩
              · rw [if_neg d3]; congr 1; symm; apply decide_eq_false
                exact fun e => d3 e.2.2.2.2.2.2.1
            · rw [if_neg d2]; congr 1; symm; apply decide_eq_false
              exact fun e => d2 e.2.2.2.2.2.1
          · rw [if_neg d1]; congr 1; symm; apply decide_eq_false
            exact fun e => d1 e.2.2.2.2.1
        · rw [if_neg c]; congr 1; symm; apply decide_eq_false
          exact fun e => c ((sgn_zero _).2 e.2.2.2.1)
      · rw [hfalse (fun h => hp h.2.2)]
        refine Ev.congr (f := fun _ => some false) (fun k => ?_) (Ev.now _)
        unfold apogeeref10_On.f
        rw [ref_right_one a, ref_right_one b, ref_right_one p, decide_eq_true ha, decide_eq_true hb, decide_eq_false hp]; rfl
    · rw [hfalse (fun h => hb h.2.1)]
      refine Ev.congr (f := fun _ => some false) (fun k => ?_) (Ev.now _)
      unfold apogeeref10_On.f
      rw [ref_right_one a, ref_right_one b, decide_eq_true ha, decide_eq_false hb]; rfl
  · rw [hfalse (fun h => ha h.1)]
    refine Ev.congr (f := fun _ => some false) (fun k => ?_) (Ev.now _)
    unfold apogeeref10_On.f
    rw [ref_right_one a, decide_eq_false ha]; rfl
theorem sgn_opp (u v : Int) : (wrap64 (sgn u * sgn v) < 0) ↔ Opp u v := by
  unfold sgn Opp
  by_cases h1 : u < 0
  · rw [if_pos h1]
    by_cases h2 : v < 0
    · rw [if_pos h2, show wrap64 (-1 * -1) = 1 from w64 (by decide) (by decide)]; omega
    · rw [if_neg h2]
      by_cases h3 : v = 0
      · rw [if_pos h3, show wrap64 (-1 * 0) = 0 from w64 (by decide) (by decide)]; omega
      · rw [if_neg h3, show wrap64 (-1 * 1) = -1 from w64 (by decide) (by decide)]; omega
  · rw [if_neg h1]
    by_cases h0 : u = 0
    · rw [if_pos h0, Int.zero_mul, show wrap64 0 = 0 from w64 (by decide) (by decide)]; omega
    · rw [if_neg h0, Int.one_mul]
      by_cases h2 : v < 0
      · rw [if_pos h2, show wrap64 (-1) = -1 from w64 (by decide) (by decide)]; omega
      · rw [if_neg h2]
        by_cases h3 : v = 0
        · rw [if_pos h3, show wrap64 0 = 0 from w64 (by decide) (by decide)]; omega
        · rw [if_neg h3, show wrap64 1 = 1 from w64 (by decide) (by decide)]; omega
theorem meet_tail (a b c d : Pt) (ha : Ok a) (hb : Ok b) (hc : Ok c) (hd : Ok d) (T : Nat → Int → Int → Int → Int → Int → Int → Option Int)
    (hT : ∀ p q r : Pt, Ev (fun k => T k p.x p.y q.x q.y r.x r.y) (turnS p q r)) :
    Ev (fun k => (T k a.x a.y b.x b.y c.x c.y).bind fun t378 => ((T k a.x a.y b.x b.y d.x d.y).bind fun t379 => (if (wrap64 (t378 * t379)) < 0 then ((T k c.x c.y d.x d.y a.x a.y).bind fun t380 => ((T k c.x c.y d.x d.y b.x b.y).bind fun t381 => (some (decide ((wrap64 (t380 * t381)) < 0))))) else (some false))))
      (decide (Opp (cr a b c) (cr a b d) ∧ Opp (cr c d a) (cr c d b))) := by
  refine Ev.bind (hT a b c) (Ev.bind (hT a b d) ?_)
  rw [turnS_ok ha hb hc, turnS_ok ha hb hd]
  by_cases h : Opp (cr a b c) (cr a b d)
  · refine Ev.congr (f := fun k => (T k c.x c.y d.x d.y a.x a.y).bind fun t380 => ((T k c.x c.y d.x d.y b.x b.y).bind fun t381 => (some (decide ((wrap64 (t380 * t381)) < 0))))) (fun k => by rw [if_pos ((sgn_opp _ _).2 h)]) (Ev.bind (hT c d a) (Ev.bind (hT c d b) ?_))
    rw [turnS_ok hc hd ha, turnS_ok hc hd hb]
    have e : decide (Opp (cr a b c) (cr a b d) ∧ Opp (cr c d a) (cr c d b)) = decide (wrap64 (sgn (cr c d a) * sgn (cr c d b)) < 0) := by
      apply decide_eq_decide.mpr; rw [sgn_opp]; exact ⟨fun e => e.2, fun e => ⟨h, e⟩⟩
    rw [e]; exact Ev.now _
  · rw [decide_eq_false (fun e => h e.1)]
    exact Ev.congr (f := fun _ => some false) (fun k => by rw [if_neg (fun e => h ((sgn_opp _ _).1 e))]) (Ev.now _)
theorem onS_ok {p a b : Pt} (hp : Ok p) (ha : Ok a) (hb : Ok b) : onS p a b = decide (On p a b) := by
  unfold onS; apply decide_eq_decide.mpr; exact ⟨fun e => e.2.2.2, fun e => ⟨ha, hb, hp, e⟩⟩
theorem meet_ev (a b c d : Pt) : Ev (fun k => point_Meet.f k a.x a.y b.x b.y c.x c.y d.x d.y) (meetS a b c d) := by
  refine Ev.congr (f := fun k => (point_right.f k [⟨a.x, a.y⟩, ⟨b.x, b.y⟩, ⟨c.x, c.y⟩, ⟨d.x, d.y⟩]).bind fun t => (if t = true then ((point_On.f k a.x a.y c.x c.y d.x d.y).bind fun t259 => (if t259 = true then (some true) else ((point_On.f k b.x b.y c.x c.y d.x d.y).bind fun t260 => (if t260 = true then (some true) else ((point_On.f k c.x c.y a.x a.y b.x b.y).bind fun t261 => (if t261 = true then (some true) else ((point_On.f k d.x d.y a.x a.y b.x b.y).bind fun t262 => (if t262 = true then (some true) else ((point_Turn.f k a.x a.y b.x b.y c.x c.y).bind fun t263 => ((point_Turn.f k a.x a.y b.x b.y d.x d.y).bind fun t264 => (if (wrap64 (t263 * t264)) < 0 then ((point_Turn.f k c.x c.y d.x d.y a.x a.y).bind fun t265 => ((point_Turn.f k c.x c.y d.x d.y b.x b.y).bind fun t266 => (some (decide ((wrap64 (t265 * t266)) < 0))))) else (some false)))))))))))) else (some false))) (fun k => rfl) (Ev.bind (right4_ev a b c d) ?_)
  unfold meetS
  by_cases h : Ok a ∧ Ok b ∧ Ok c ∧ Ok d
  · rw [decide_eq_true h]
    obtain ⟨ha, hb, hc, hd⟩ := h
    have e : decide (Ok a ∧ Ok b ∧ Ok c ∧ Ok d ∧ Meet a b c d) = decide (Meet a b c d) := decide_eq_decide.mpr ⟨fun e => e.2.2.2.2, fun e => ⟨ha, hb, hc, hd, e⟩⟩
    rw [e]
    have o1 := on_ev a c d
    have o2 := on_ev b c d
    have o3 := on_ev c a b
    have o4 := on_ev d a b
    rw [onS_ok ha hc hd] at o1
    rw [onS_ok hb hc hd] at o2
    rw [onS_ok hc ha hb] at o3
    rw [onS_ok hd ha hb] at o4
    refine Ev.congr (fun k => by rw [if_pos rfl]) (Ev.bind o1 ?_)
    by_cases c1 : On a c d
    · rw [decide_eq_true c1, decide_eq_true (show Meet a b c d from .inl c1)]; exact Ev.congr (fun k => by rw [if_pos rfl]) (Ev.now _)
    rw [decide_eq_false c1]
    refine Ev.congr (fun k => by rw [if_neg (by decide)]) (Ev.bind o2 ?_)
    by_cases c2 : On b c d
    · rw [decide_eq_true c2, decide_eq_true (show Meet a b c d from .inr (.inl c2))]; exact Ev.congr (fun k => by rw [if_pos rfl]) (Ev.now _)
    rw [decide_eq_false c2]
    refine Ev.congr (fun k => by rw [if_neg (by decide)]) (Ev.bind o3 ?_)
    by_cases c3 : On c a b
    · rw [decide_eq_true c3, decide_eq_true (show Meet a b c d from .inr (.inr (.inl c3)))]; exact Ev.congr (fun k => by rw [if_pos rfl]) (Ev.now _)
    rw [decide_eq_false c3]
    refine Ev.congr (fun k => by rw [if_neg (by decide)]) (Ev.bind o4 ?_)
    by_cases c4 : On d a b
    · rw [decide_eq_true c4, decide_eq_true (show Meet a b c d from .inr (.inr (.inr (.inl c4))))]; exact Ev.congr (fun k => by rw [if_pos rfl]) (Ev.now _)
    rw [decide_eq_false c4]
    have e5 : decide (Meet a b c d) = decide (Opp (cr a b c) (cr a b d) ∧ Opp (cr c d a) (cr c d b)) := by
      apply decide_eq_decide.mpr; unfold Meet; simp [c1, c2, c3, c4]
    rw [e5]
    exact Ev.congr (fun k => by rw [if_neg (by decide)]) (meet_tail a b c d ha hb hc hd point_Turn.f turn_ev)
  · rw [decide_eq_false h, decide_eq_false (fun e => h ⟨e.1, e.2.1, e.2.2.1, e.2.2.2.1⟩)]
    exact Ev.congr (f := fun _ => some false) (fun k => rfl) (Ev.now _)
theorem ref_meet_ev (a b c d : Pt) : Ev (fun k => apogeeref10_Meet.f k a.x a.y b.x b.y c.x c.y d.x d.y) (meetS a b c d) := by
  have hz : Ev (fun k => apogeeref10_Meet.j0 k true a.x a.y b.x b.y c.x c.y d.x d.y) false :=
    Ev.step (f := fun _ => some false) (fun k => by simp only [apogeeref10_Meet.j0]; rw [if_pos trivial]) (Ev.now _)
  have hfalse : ∀ (_ : ¬ (Ok a ∧ Ok b ∧ Ok c ∧ Ok d)), meetS a b c d = false := fun h => by unfold meetS; exact decide_eq_false (fun e => h ⟨e.1, e.2.1, e.2.2.1, e.2.2.2.1⟩)
  by_cases ha : Ok a
  · by_cases hb : Ok b
    · by_cases hc : Ok c
      · by_cases hd : Ok d
        · have e : meetS a b c d = decide (Meet a b c d) := decide_eq_decide.mpr ⟨fun e => e.2.2.2.2, fun e => ⟨ha, hb, hc, hd, e⟩⟩
          rw [e]
          have o1 := ref_on_ev a c d
          have o2 := ref_on_ev b c d
          have o3 := ref_on_ev c a b
          have o4 := ref_on_ev d a b
          rw [onS_ok ha hc hd] at o1
          rw [onS_ok hb hc hd] at o2
          rw [onS_ok hc ha hb] at o3
          rw [onS_ok hd ha hb] at o4
          have j1 : ∀ t : Bool, Ev (fun k => apogeeref10_Meet.j1 k t a.x a.y b.x b.y c.x c.y d.x d.y) (t || decide (Opp (cr a b c) (cr a b d) ∧ Opp (cr c d a) (cr c d b))) := by
            intro t
            cases t with
            | true => exact Ev.step (f := fun _ => some true) (fun k => by simp only [apogeeref10_Meet.j1]; rw [if_pos trivial]) (Ev.now _)
            | false =>
              rw [Bool.false_or]
              exact Ev.step (fun k => by simp only [apogeeref10_Meet.j1]; rw [if_neg (by decide)]) (meet_tail a b c d ha hb hc hd apogeeref10_Turn.f ref_turn_ev)
          refine Ev.congr (f := fun k => apogeeref10_Meet.j0 k false a.x a.y b.x b.y c.x c.y d.x d.y) (fun k => ?_) ?_
          · unfold apogeeref10_Meet.f
            rw [ref_right_one a, ref_right_one b, ref_right_one c, ref_right_one d, decide_eq_true ha, decide_eq_true hb, decide_eq_true hc, decide_eq_true hd]; rfl
          refine Ev.step (f := fun k => (apogeeref10_On.f k a.x a.y c.x c.y d.x d.y).bind fun t374 => (if t374 = true then (apogeeref10_Meet.j1 k true a.x a.y b.x b.y c.x c.y d.x d.y) else ((apogeeref10_On.f k b.x b.y c.x c.y d.x d.y).bind fun t375 => (if t375 = true then (apogeeref10_Meet.j1 k true a.x a.y b.x b.y c.x c.y d.x d.y) else ((apogeeref10_On.f k c.x c.y a.x a.y b.x b.y).bind fun t376 => (if t376 = true then (apogeeref10_Meet.j1 k true a.x a.y b.x b.y c.x c.y d.x d.y) else ((apogeeref10_On.f k d.x d.y a.x a.y b.x b.y).bind fun t377 => (apogeeref10_Meet.j1 k t377 a.x a.y b.x b.y c.x c.y d.x d.y)))))))) (fun k => by simp only [apogeeref10_Meet.j0]; rw [if_neg (by decide)]) (Ev.bind o1 ?_)
          by_cases c1 : On a c d
          · rw [decide_eq_true c1, decide_eq_true (show Meet a b c d from .inl c1)]; exact Ev.congr (fun k => by rw [if_pos rfl]) (j1 true)
          rw [decide_eq_false c1]
          refine Ev.congr (fun k => by rw [if_neg (by decide)]) (Ev.bind o2 ?_)
          by_cases c2 : On b c d
          · rw [decide_eq_true c2, decide_eq_true (show Meet a b c d from .inr (.inl c2))]; exact Ev.congr (fun k => by rw [if_pos rfl]) (j1 true)
          rw [decide_eq_false c2]
          refine Ev.congr (fun k => by rw [if_neg (by decide)]) (Ev.bind o3 ?_)
          by_cases c3 : On c a b
          · rw [decide_eq_true c3, decide_eq_true (show Meet a b c d from .inr (.inr (.inl c3)))]; exact Ev.congr (fun k => by rw [if_pos rfl]) (j1 true)
          rw [decide_eq_false c3]
          refine Ev.congr (fun k => by rw [if_neg (by decide)]) (Ev.bind o4 ?_)
          have e5 : decide (Meet a b c d) = (decide (On d a b) || decide (Opp (cr a b c) (cr a b d) ∧ Opp (cr c d a) (cr c d b))) := by
            rw [← Bool.decide_or]; apply decide_eq_decide.mpr; unfold Meet; simp [c1, c2, c3]
          rw [e5]
          exact j1 _
        · rw [hfalse (fun h => hd h.2.2.2)]
          refine Ev.congr (fun k => ?_) hz
          unfold apogeeref10_Meet.f
          rw [ref_right_one a, ref_right_one b, ref_right_one c, ref_right_one d, decide_eq_true ha, decide_eq_true hb, decide_eq_true hc, decide_eq_false hd]; rfl
      · rw [hfalse (fun h => hc h.2.2.1)]
        refine Ev.congr (fun k => ?_) hz
        unfold apogeeref10_Meet.f
        rw [ref_right_one a, ref_right_one b, ref_right_one c, decide_eq_true ha, decide_eq_true hb, decide_eq_false hc]; rfl
    · rw [hfalse (fun h => hb h.2.1)]
      refine Ev.congr (fun k => ?_) hz
      unfold apogeeref10_Meet.f
      rw [ref_right_one a, ref_right_one b, decide_eq_true ha, decide_eq_false hb]; rfl
  · rw [hfalse (fun h => ha h.1)]
    refine Ev.congr (fun k => ?_) hz
    unfold apogeeref10_Meet.f
    rw [ref_right_one a, decide_eq_false ha]; rfl
end Go.Proofs.Ytjmibjmlihmglaa.Q
