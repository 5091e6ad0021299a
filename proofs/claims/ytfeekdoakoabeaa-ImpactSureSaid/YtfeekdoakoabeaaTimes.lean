/- The time of a fall, told by heights; it grows with the height and with the speed upwards; boxes of places within each other. -/
import Derived.Test.YtfeekdoakoabeaaArith
import Derived.Test.YtfeekdoakoabeaaWideBase
import Derived.Test.YtfeekdoakoabeaaWideAdd
import Derived.Test.YtfeekdoakoabeaaWide128
import Derived.Test.YtfeekdoakoabeaaWideMul
import Derived.Test.YtfeekdoakoabeaaGeoBase
import Derived.Test.YtfeekdoakoabeaaGeo
import Derived.Test.YtfeekdoakoabeaaPoint
import Derived.Test.YtfeekdoakoabeaaRoot
import Derived.Test.YtfeekdoakoabeaaFall
import Derived.Test.YtfeekdoakoabeaaImpact
set_option linter.unusedVariables false
namespace Go.Proofs.Ytfeekdoakoabeaa.Q
open Go.RowKit Go.Proofs.Ytfeekdoakoabeaa.G Go.Proofs.Ytfeekdoakoabeaa.Geo Go.Proofs.YtfeekdoakoabeaaW.PrintWords Go.Proofs.YtfeekdoakoabeaaW.PrintLast Go.Proofs.YtfeekdoakoabeaaW.PrintMore
theorem sq_mono {a b : Int} (ha : 0 ≤ a) (h : a ≤ b) : a * a ≤ b * b := Int.mul_le_mul h h ha (by omega)
theorem time_above (z v g r : Int) (hz : 0 ≤ z) (hg : 1 ≤ g) (hr : IsRoot (v * v + 2 * g * z) r) (t : Int) (ht : 0 ≤ t) : t ≤ (v + r) / g ↔ 0 ≤ 2 * z + 2 * v * t - g * t * t := by
  obtain ⟨r0, r1, r2⟩ := hr
  have hgz : 0 ≤ g * z := Int.mul_nonneg (by omega) hz
  have e : g * (2 * z + 2 * v * t - g * t * t) = (v * v + 2 * g * z) - (g * t - v) * (g * t - v) := by grind
  rw [Int.le_ediv_iff_mul_le (by omega : 0 < g)]
  constructor
  · intro h
    apply Int.not_lt.mp; intro hn
    have h1 := Int.mul_pos (show 0 < g by omega) (show 0 < -(2 * z + 2 * v * t - g * t * t) by omega)
    by_cases hs : 0 ≤ g * t - v
    · have := sq_mono hs (show g * t - v ≤ r by grind); grind
    · have k1 : g * t < v := by omega
      have k2 := Int.mul_nonneg (show 0 ≤ g by omega) ht
      have k3 := Int.mul_nonneg k2 (show 0 ≤ 2 * v - g * t by omega)
      have k4 : g * (2 * z + 2 * v * t - g * t * t) = 2 * (g * z) + g * t * (2 * v - g * t) := by grind
      have k5 : g * -(2 * z + 2 * v * t - g * t * t) = -(g * (2 * z + 2 * v * t - g * t * t)) := by grind
      omega
  · intro h
    have h1 := Int.mul_nonneg (show 0 ≤ g by omega) h
    apply Int.not_lt.mp; intro hn
    have hs : r + 1 ≤ g * t - v := by grind
    have := sq_mono (by omega) hs
    grind
theorem time_nonneg (z v g r : Int) (hg : 1 ≤ g) (hr : 0 ≤ z → IsRoot (v * v + 2 * g * z) r) : 0 ≤ timeOf z v g r := by
  unfold timeOf
  by_cases c : z < 0
  · rw [if_pos c]; omega
  · rw [if_neg c]; exact (time_above z v g r (by omega) hg (hr (by omega)) 0 (by omega)).2 (by simp; omega)
theorem time_mono (z v z' v' g r r' : Int) (hg : 1 ≤ g) (hz : z ≤ z') (hv : v ≤ v') (hr : 0 ≤ z → IsRoot (v * v + 2 * g * z) r) (hr' : 0 ≤ z' → IsRoot (v' * v' + 2 * g * z') r') :
    timeOf z v g r ≤ timeOf z' v' g r' := by
  by_cases c : z < 0
  · have := time_nonneg z' v' g r' hg hr'
    unfold timeOf at *; rw [if_pos c]; exact this
  · have h0 := time_nonneg z v g r hg hr
    unfold timeOf at *
    rw [if_neg c] at *; rw [if_neg (by omega)]
    have h1 := (time_above z v g r (by omega) hg (hr (by omega)) _ h0).1 (Int.le_refl _)
    refine (time_above z' v' g r' (by omega) hg (hr' (by omega)) _ h0).2 ?_
    generalize (v + r) / g = t at *
    have := Int.mul_nonneg (show 0 ≤ v' - v by omega) h0
    grind
theorem lo_le (v lo hi t : Int) (h1 : lo ≤ t) (h2 : t ≤ hi) : mn (v * lo) (v * hi) ≤ v * t := by
  rcases mn_or (v * lo) (v * hi) with h | h <;> rw [h.1]
  · by_cases c : 0 ≤ v
    · have := Int.mul_nonneg c (show 0 ≤ t - lo by omega); grind
    · have := Int.mul_nonneg (show 0 ≤ -v by omega) (show 0 ≤ hi - t by omega); have := h.2; grind
  · by_cases c : 0 ≤ v
    · have := Int.mul_nonneg c (show 0 ≤ t - lo by omega); have := h.2; grind
    · have := Int.mul_nonneg (show 0 ≤ -v by omega) (show 0 ≤ hi - t by omega); grind
theorem le_hi (v lo hi t : Int) (h1 : lo ≤ t) (h2 : t ≤ hi) : v * t ≤ mx (v * lo) (v * hi) := by
  rcases mx_or (v * lo) (v * hi) with h | h <;> rw [h.1]
  · by_cases c : 0 ≤ v
    · have := Int.mul_nonneg c (show 0 ≤ hi - t by omega); have := h.2; grind
    · have := Int.mul_nonneg (show 0 ≤ -v by omega) (show 0 ≤ t - lo by omega); grind
  · by_cases c : 0 ≤ v
    · have := Int.mul_nonneg c (show 0 ≤ hi - t by omega); grind
    · have := Int.mul_nonneg (show 0 ≤ -v by omega) (show 0 ≤ t - lo by omega); have := h.2; grind
theorem way_side (x v e lo hi m w t : Int) (hm : x - e ≤ m ∧ m ≤ x + e) (hw : v - e ≤ w ∧ w ≤ v + e) (h0 : 0 ≤ lo) (h1 : lo ≤ t) (h2 : t ≤ hi) :
    bl x v e lo hi ≤ m + w * t ∧ m + w * t ≤ bh x v e lo hi := by
  have a := lo_le (v - e) lo hi t h1 h2
  have b := le_hi (v + e) lo hi t h1 h2
  have c := Int.mul_nonneg (show 0 ≤ w - (v - e) by omega) (show 0 ≤ t by omega)
  have d := Int.mul_nonneg (show 0 ≤ (v + e) - w by omega) (show 0 ≤ t by omega)
  unfold bl bh
  constructor <;> grind
end Go.Proofs.Ytfeekdoakoabeaa.Q
