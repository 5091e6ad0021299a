/- The impact's box: what the program's impact package answers, in plain numbers. -/
import Derived.Test.YtfeekdoakoabeaaGx5
import Derived.Test.YtfeekdoakoabeaaGx6
import Derived.Test.YtfeekdoakoabeaaGx7
import Derived.Test.YtfeekdoakoabeaaArith
import Derived.Test.YtfeekdoakoabeaaRoot
import Derived.Test.YtfeekdoakoabeaaWideBase
import Derived.Test.YtfeekdoakoabeaaWideAdd
import Derived.Test.YtfeekdoakoabeaaFall
import Derived.Test.YtfeekdoakoabeaaGeoBase
import Derived.Test.YtfeekdoakoabeaaGeo
import Derived.Test.YtfeekdoakoabeaaPoint
namespace Go.Proofs.Ytfeekdoakoabeaa.Q
open Go.RowKit Go.Proofs.Ytfeekdoakoabeaa.G Go.Proofs.Ytfeekdoakoabeaa.Geo Go.Proofs.YtfeekdoakoabeaaW.PrintWords Go.Proofs.YtfeekdoakoabeaaW.PrintLast Go.Proofs.YtfeekdoakoabeaaW.PrintMore
set_option linter.unusedVariables false
set_option linter.unusedSimpArgs false
theorem timeOf_bounds (z vz g r : Int) (h : Small z vz g) (hr : 0 ≤ z → IsRoot (vz * vz + 2 * g * z) r) : 0 ≤ timeOf z vz g r ∧ timeOf z vz g r ≤ 1310720 := by
  unfold timeOf
  by_cases hz : z < 0
  · rw [if_pos hz]; decide
  · rw [if_neg hz]
    have hg := root_ge z vz g r h (by omega) (hr (by omega))
    obtain ⟨_, ⟨h3, h4⟩, ⟨h5, h6⟩⟩ := h
    have h7 : 0 ≤ (vz + r) / g := Int.ediv_nonneg (by omega) (by omega)
    have h8 : (vz + r) / g ≤ vz + r := Int.ediv_le_self g (by omega)
    omega
theorem span_ev (z vz g e : Int) (h : May z vz g) (he : 0 ≤ e ∧ e ≤ 2048) :
    ∃ r s, (0 ≤ z - e → IsRoot ((vz - e) * (vz - e) + 2 * g * (z - e)) r) ∧ (0 ≤ z + e → IsRoot ((vz + e) * (vz + e) + 2 * g * (z + e)) s) ∧
      Ev (fun k => fall_Span.f k z vz g e) (timeOf (z - e) (vz - e) g r, timeOf (z + e) (vz + e) g s + 2, true) := by
  have hm := h
  unfold May at hm
  have s1 : Small (z - e) (vz - e) g := by unfold Small; omega
  have s2 : Small (z + e) (vz + e) g := by unfold Small; omega
  obtain ⟨r, hr, e1⟩ := fallen_ev (z - e) (vz - e) g s1
  obtain ⟨s, hs, e2⟩ := fallen_ev (z + e) (vz + e) g s2
  have b2 := timeOf_bounds (z + e) (vz + e) g s s2 hs
  refine ⟨r, s, hr, hs, ?_⟩
  refine Ev.congr (f := fun k => fall_Span.j0 k z vz g e false) (fun k => ?_) ?_
  · unfold fall_Span.f
    rw [within_plain, may_plain]
    simp only [Option.bind_some, decide_eq_true he, decide_eq_true h, if_true, Bool.not_true]
  refine Ev.step (f := fun k => (fall_fallen.f k (z - e) (vz - e) g).bind fun b => ((fall_fallen.f k (z + e) (vz + e) g).bind fun c => (if b.2 = true then (if c.2 = true then (some (b.1, wrap64 (c.1 + 2), true)) else (some (0, 0, false))) else (some (0, 0, false))))) (fun k => ?_) (Ev.bind e1 (Ev.bind e2 ?_))
  · simp only [fall_Span.j0]
    rw [if_neg (by decide), w64 (x := z - e) (by omega) (by omega), w64 (x := vz - e) (by omega) (by omega), w64 (x := z + e) (by omega) (by omega), w64 (x := vz + e) (by omega) (by omega)]
  · refine Ev.congr (f := fun _ => some (timeOf (z - e) (vz - e) g r, timeOf (z + e) (vz + e) g s + 2, true)) (fun k => ?_) (Ev.now _)
    dsimp only
    rw [if_pos rfl, if_pos rfl, w64 (by omega) (by omega)]
theorem within2_ev (n a b : Int) (hn : 0 ≤ n ∧ n ≤ 4294967296) (ha : -n ≤ a ∧ a ≤ n) (hb : -n ≤ b ∧ b ≤ n) : Ev (fun k => impact_within.f k n [a, b]) true := by
  refine Ev.congr (f := fun k => impact_within.l0 k n [a, b] 2 0) (fun k => rfl) ?_
  refine Ev.step (f := fun k => impact_within.l0 k n [a, b] 2 1) (fun k => ?_) ?_
  · simp only [impact_within.l0]
    rw [if_pos (by decide), if_pos (by decide), if_pos (by simp), show rd [a, b] 0 = a from rfl, w64 (x := -n) (by omega) (by omega), if_neg (by omega), if_neg (by omega), show wrap64 (0 + 1) = 1 from w64 (by decide) (by decide)]
  refine Ev.step (f := fun k => impact_within.l0 k n [a, b] 2 2) (fun k => ?_) ?_
  · simp only [impact_within.l0]
    rw [if_pos (by decide), if_pos (by decide), if_pos (by simp), show rd [a, b] 1 = b from rfl, w64 (x := -n) (by omega) (by omega), if_neg (by omega), if_neg (by omega), show wrap64 (1 + 1) = 2 from w64 (by decide) (by decide)]
  refine Ev.step (f := fun k => some true) (fun k => ?_) (Ev.now _)
  simp only [impact_within.l0]
  rw [if_neg (by decide)]
theorem may2_ev (a b x y z u v w : Int) (h1 : -2147483648 ≤ x ∧ x ≤ 2147483648) (h2 : -2147483648 ≤ y ∧ y ≤ 2147483648) (h3 : -131072 ≤ u ∧ u ≤ 131072) (h4 : -131072 ≤ v ∧ v ≤ 131072) :
    Ev (fun k => impact_may.f k a b x y z u v w) true := by
  refine Ev.bind (within2_ev 2147483648 x y (by decide) h1 h2) ?_
  refine Ev.congr (f := fun k => (impact_within.f k 131072 [u, v]).bind fun t => some t) (fun k => by rw [if_pos rfl]) ?_
  exact Ev.bind (within2_ev 131072 u v (by decide) h3 h4) (Ev.now _)
def bl (x v e lo hi : Int) : Int := x - e + mn ((v - e) * lo) ((v - e) * hi)
def bh (x v e lo hi : Int) : Int := x + e + mx ((v + e) * lo) ((v + e) * hi)
theorem vt_bound (v t : Int) (hv : -133120 ≤ v ∧ v ≤ 133120) (ht : 0 ≤ t ∧ t ≤ 1310722) : -174483312640 ≤ v * t ∧ v * t ≤ 174483312640 := by
  have a1 : v * t ≤ 133120 * t := Int.mul_le_mul_of_nonneg_right hv.2 ht.1
  have a2 : -133120 * t ≤ v * t := Int.mul_le_mul_of_nonneg_right hv.1 ht.1
  omega
theorem mn_or (a b : Int) : (mn a b = a ∧ a ≤ b) ∨ (mn a b = b ∧ b ≤ a) := by unfold mn; omega
theorem mx_or (a b : Int) : (mx a b = a ∧ b ≤ a) ∨ (mx a b = b ∧ a ≤ b) := by unfold mx; omega
theorem side_bounds (x v e lo hi : Int) (hx : -2147483648 ≤ x ∧ x ≤ 2147483648) (hv : -131072 ≤ v ∧ v ≤ 131072) (he : 0 ≤ e ∧ e ≤ 2048) (hl : 0 ≤ lo ∧ lo ≤ 1310722) (hh : 0 ≤ hi ∧ hi ≤ 1310722) :
    -176630798336 ≤ bl x v e lo hi ∧ bl x v e lo hi ≤ bh x v e lo hi ∧ bh x v e lo hi ≤ 176630798336 := by
  have b1 := vt_bound (v - e) lo (by omega) hl
  have b2 := vt_bound (v - e) hi (by omega) hh
  have b3 := vt_bound (v + e) lo (by omega) hl
  have b4 := vt_bound (v + e) hi (by omega) hh
  have b5 : (v - e) * lo ≤ (v + e) * lo := Int.mul_le_mul_of_nonneg_right (by omega) hl.1
  have c1 := mn_or ((v - e) * lo) ((v - e) * hi)
  have c2 := mx_or ((v + e) * lo) ((v + e) * hi)
  unfold bl bh
  omega
theorem side_plain (x v e lo hi : Int) (hx : -2147483648 ≤ x ∧ x ≤ 2147483648) (hv : -131072 ≤ v ∧ v ≤ 131072) (he : 0 ≤ e ∧ e ≤ 2048) (hl : 0 ≤ lo ∧ lo ≤ 1310722) (hh : 0 ≤ hi ∧ hi ≤ 1310722) :
    impact_side.f x v e lo hi = some (bl x v e lo hi, bh x v e lo hi) := by
  have b1 := vt_bound (v - e) lo (by omega) hl
  have b2 := vt_bound (v - e) hi (by omega) hh
  have b3 := vt_bound (v + e) lo (by omega) hl
  have b4 := vt_bound (v + e) hi (by omega) hh
  have hb := side_bounds x v e lo hi hx hv he hl hh
  unfold impact_side.f
  rw [w64 (x := x - e) (by omega) (by omega), w64 (x := v - e) (by omega) (by omega), w64 (x := x + e) (by omega) (by omega), w64 (x := v + e) (by omega) (by omega),
    w64 (x := (v - e) * lo) (by omega) (by omega), w64 (x := (v - e) * hi) (by omega) (by omega), w64 (x := (v + e) * lo) (by omega) (by omega), w64 (x := (v + e) * hi) (by omega) (by omega)]
  unfold bl bh at *
  rw [w64 (by omega) (by omega), w64 (by omega) (by omega)]
theorem box_right_plain (a b c d : Int) (h1 : -176630798336 ≤ a ∧ a ≤ c ∧ c ≤ 176630798336) (h2 : -176630798336 ≤ b ∧ b ≤ d ∧ d ≤ 176630798336) : box_Right.f a b c d = some true := by
  unfold box_Right.f
  rw [show point_Right.f a b = some (decide (Ok ⟨a, b⟩)) from point_right_one ⟨a, b⟩, show point_Right.f c d = some (decide (Ok ⟨c, d⟩)) from point_right_one ⟨c, d⟩]
  have o1 : Ok ⟨a, b⟩ := by unfold Ok; dsimp only; omega
  have o2 : Ok ⟨c, d⟩ := by unfold Ok; dsimp only; omega
  simp only [Option.bind_some, decide_eq_true o1, decide_eq_true o2, if_true]
  rw [if_pos (by omega), decide_eq_true (by omega)]
theorem box_ev (a b x y z u v w g e : Int) (h : May z w g) (he : 0 ≤ e ∧ e ≤ 2048) (h1 : -2147483648 ≤ x ∧ x ≤ 2147483648) (h2 : -2147483648 ≤ y ∧ y ≤ 2147483648) (h3 : -131072 ≤ u ∧ u ≤ 131072) (h4 : -131072 ≤ v ∧ v ≤ 131072) :
    ∃ r s, (0 ≤ z - e → IsRoot ((w - e) * (w - e) + 2 * g * (z - e)) r) ∧ (0 ≤ z + e → IsRoot ((w + e) * (w + e) + 2 * g * (z + e)) s) ∧
      Ev (fun k => impact_Box.f k a b x y z u v w g e)
        (bl x u e (timeOf (z - e) (w - e) g r) (timeOf (z + e) (w + e) g s + 2), bl y v e (timeOf (z - e) (w - e) g r) (timeOf (z + e) (w + e) g s + 2),
         bh x u e (timeOf (z - e) (w - e) g r) (timeOf (z + e) (w + e) g s + 2), bh y v e (timeOf (z - e) (w - e) g r) (timeOf (z + e) (w + e) g s + 2), true) := by
  have hm := h
  unfold May at hm
  obtain ⟨r, s, hr, hs, hsp⟩ := span_ev z w g e h he
  have t1 := timeOf_bounds (z - e) (w - e) g r (by unfold Small; omega) hr
  have t2 := timeOf_bounds (z + e) (w + e) g s (by unfold Small; omega) hs
  refine ⟨r, s, hr, hs, ?_⟩
  refine Ev.bind hsp ?_
  dsimp only
  refine Ev.congr (f := fun k => (impact_may.f k a b x y z u v w).bind fun t => (impact_Box.j0 k e (timeOf (z - e) (w - e) g r) (timeOf (z + e) (w + e) g s + 2) (!t) a b x y z u v w 0 0 0 0)) (fun k => by rw [if_pos rfl]) ?_
  refine Ev.bind (may2_ev a b x y z u v w h1 h2 h3 h4) ?_
  refine Ev.step (f := fun _ => some (bl x u e (timeOf (z - e) (w - e) g r) (timeOf (z + e) (w + e) g s + 2), bl y v e (timeOf (z - e) (w - e) g r) (timeOf (z + e) (w + e) g s + 2),
         bh x u e (timeOf (z - e) (w - e) g r) (timeOf (z + e) (w + e) g s + 2), bh y v e (timeOf (z - e) (w - e) g r) (timeOf (z + e) (w + e) g s + 2), true)) (fun k => ?_) (Ev.now _)
  simp only [impact_Box.j0, Bool.not_true]
  have p1 := side_bounds x u e (timeOf (z - e) (w - e) g r) (timeOf (z + e) (w + e) g s + 2) h1 h3 he (by omega) (by omega)
  have p2 := side_bounds y v e (timeOf (z - e) (w - e) g r) (timeOf (z + e) (w + e) g s + 2) h2 h4 he (by omega) (by omega)
  rw [if_neg (by decide), side_plain x u e _ _ h1 h3 he (by omega) (by omega), side_plain y v e _ _ h2 h4 he (by omega) (by omega)]
  simp only [Option.bind_some]
  rw [box_right_plain _ _ _ _ p1 p2]
  rfl
theorem tmod_bound (a n : Int) (hn : 0 < n) : -n < Int.tmod a n ∧ Int.tmod a n < n := by
  have h1 := Int.tmod_lt_of_pos a hn
  have h2 := Int.lt_tmod_of_pos a hn
  omega
theorem land30 (n : Int) : Go.bits .and .i64 n 1073741823 = n % 1073741824 := by
  have h127 : (BitVec.ofInt 64 1073741823).toNat = 2 ^ 30 - 1 := by decide
  have key : (BitVec.ofInt 64 n &&& BitVec.ofInt 64 1073741823).toNat = (n % ((2 ^ 64 : Nat) : Int)).toNat % 2 ^ 30 := by
    rw [BitVec.toNat_and, BitVec.toNat_ofInt, h127, Nat.and_two_pow_sub_one_eq_mod]
  show IntKind.i64.wrap ((BitVec.ofInt 64 n &&& BitVec.ofInt 64 1073741823).toNat : Nat) = n % 1073741824
  rw [key, IntKind.wrap_i64]
  omega
end Go.Proofs.Ytfeekdoakoabeaa.Q
