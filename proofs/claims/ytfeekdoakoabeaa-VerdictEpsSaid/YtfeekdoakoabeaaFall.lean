/- The fall: what the program's fall package answers, in plain numbers. -/
import Derived.Test.YtfeekdoakoabeaaGx24
import Derived.Test.YtfeekdoakoabeaaGx5
import Derived.Test.YtfeekdoakoabeaaArith
import Derived.Test.YtfeekdoakoabeaaRoot
import Derived.Test.YtfeekdoakoabeaaWideBase
import Derived.Test.YtfeekdoakoabeaaWideAdd
namespace Go.Proofs.Ytfeekdoakoabeaa.Q
open Go.RowKit Go.Proofs.Ytfeekdoakoabeaa.G Go.Proofs.YtfeekdoakoabeaaW.PrintWords Go.Proofs.YtfeekdoakoabeaaW.PrintLast Go.Proofs.YtfeekdoakoabeaaW.PrintMore
def May (z vz g : Int) : Prop := (-2147483648 ≤ z ∧ z ≤ 2147483648) ∧ (-131072 ≤ vz ∧ vz ≤ 131072) ∧ (1 ≤ g ∧ g ≤ 100)
instance (z vz g : Int) : Decidable (May z vz g) := inferInstanceAs (Decidable (_ ∧ _))
theorem within_plain (n lo hi : Int) : fall_within.f n lo hi = some (decide (lo ≤ n ∧ n ≤ hi)) := by
  unfold fall_within.f
  by_cases h : n ≥ lo
  · rw [if_pos h]; congr 1; apply decide_eq_decide.mpr; omega
  · rw [if_neg h]; congr 1; symm; apply decide_eq_false; omega
theorem may_plain (z vz g : Int) : fall_may.f z vz g = some (decide (May z vz g)) := by
  unfold fall_may.f
  simp only [within_plain, Option.bind_some, decide_eq_true_eq]
  unfold May
  by_cases h1 : -2147483648 ≤ z ∧ z ≤ 2147483648
  · rw [if_pos h1]
    by_cases h2 : -131072 ≤ vz ∧ vz ≤ 131072
    · rw [if_pos h2]; congr 1; apply decide_eq_decide.mpr; omega
    · rw [if_neg h2]; congr 1; symm; apply decide_eq_false; omega
  · rw [if_neg h1]; congr 1; symm; apply decide_eq_false; omega
theorem ref_may_plain (z vz g : Int) : apogeeref17_May.f z vz g = some (decide (May z vz g)) := by
  unfold apogeeref17_May.f May
  by_cases h1 : z ≥ -2147483648
  · rw [if_pos h1]
    by_cases h2 : z ≤ 2147483648
    · rw [if_pos h2]
      by_cases h3 : vz ≥ -131072
      · rw [if_pos h3]
        by_cases h4 : vz ≤ 131072
        · rw [if_pos h4]
          by_cases h5 : g ≥ 1
          · rw [if_pos h5]; congr 1; apply decide_eq_decide.mpr; omega
          · rw [if_neg h5]; congr 1; symm; apply decide_eq_false; omega
        · rw [if_neg h4]; congr 1; symm; apply decide_eq_false; omega
      · rw [if_neg h3]; congr 1; symm; apply decide_eq_false; omega
    · rw [if_neg h2]; congr 1; symm; apply decide_eq_false; omega
  · rw [if_neg h1]; congr 1; symm; apply decide_eq_false; omega
def Small (z vz g : Int) : Prop := (-4294967296 ≤ z ∧ z ≤ 4294967296) ∧ (-262144 ≤ vz ∧ vz ≤ 262144) ∧ (1 ≤ g ∧ g ≤ 100)
theorem disc_bounds (z vz g : Int) (h : Small z vz g) (hz : 0 ≤ z) :
    0 ≤ vz * vz ∧ vz * vz ≤ 68719476736 ∧ 0 ≤ g * z ∧ g * z ≤ 429496729600 := by
  obtain ⟨⟨_, h2⟩, ⟨h3, h4⟩, ⟨h5, h6⟩⟩ := h
  refine ⟨?_, ?_, Int.mul_nonneg (by omega) hz, ?_⟩
  · by_cases c : 0 ≤ vz
    · exact Int.mul_nonneg c c
    · have := Int.mul_nonneg (show 0 ≤ -vz by omega) (show 0 ≤ -vz by omega); grind
  · by_cases c : 0 ≤ vz
    · exact Int.mul_le_mul (show vz ≤ 262144 by omega) (show vz ≤ 262144 by omega) c (by decide)
    · have := Int.mul_le_mul (show -vz ≤ 262144 by omega) (show -vz ≤ 262144 by omega) (show 0 ≤ -vz by omega) (by decide); grind
  · exact Int.mul_le_mul h6 h2 hz (by decide)
theorem root_ge (z vz g r : Int) (h : Small z vz g) (hz : 0 ≤ z) (hr : IsRoot (vz * vz + 2 * g * z) r) : -vz ≤ r ∧ vz ≤ r ∧ r ≤ 1048576 := by
  have hb := disc_bounds z vz g h hz
  obtain ⟨⟨_, h2⟩, ⟨h3, h4⟩, ⟨h5, h6⟩⟩ := h
  obtain ⟨r0, r1, r2⟩ := hr
  have e : 2 * g * z = 2 * (g * z) := by grind
  rw [e] at r1 r2
  refine ⟨?_, ?_, ?_⟩
  · by_cases c : 0 ≤ -vz
    · have := sq_lt c (show (-vz) * (-vz) < (r + 1) * (r + 1) by have : (-vz) * (-vz) = vz * vz := by grind
                                                                 omega) (by omega)
      omega
    · omega
  · by_cases c : 0 ≤ vz
    · have := sq_lt c (show vz * vz < (r + 1) * (r + 1) by omega) (by omega)
      omega
    · omega
  · have := sq_lt r0 (show r * r < 1048577 * 1048577 by omega) (by decide)
    omega
def timeOf (z vz g r : Int) : Int := if z < 0 then 0 else (vz + r) / g
theorem disc_wrap (z vz g : Int) (h : Small z vz g) (hz : 0 ≤ z) :
    wrap64 ((wrap64 (vz * vz)) + (wrap64 ((wrap64 (2 * g)) * z))) = vz * vz + 2 * g * z := by
  have hb := disc_bounds z vz g h hz
  obtain ⟨_, _, ⟨h5, h6⟩⟩ := h
  have e : 2 * g * z = 2 * (g * z) := by grind
  rw [w64 (x := 2 * g) (by omega) (by omega), e, w64 (x := vz * vz) (by omega) (by omega), w64 (x := 2 * (g * z)) (by omega) (by omega), w64 (by omega) (by omega)]
theorem time_wrap (z vz g r : Int) (h : Small z vz g) (hz : 0 ≤ z) (hr : IsRoot (vz * vz + 2 * g * z) r) :
    wrap64 (Int.tdiv (wrap64 (vz + r)) g) = (vz + r) / g := by
  have hg := root_ge z vz g r h hz hr
  obtain ⟨_, ⟨h3, h4⟩, ⟨h5, h6⟩⟩ := h
  rw [w64 (x := vz + r) (by omega) (by omega), Int.tdiv_eq_ediv_of_nonneg (by omega)]
  have h7 : 0 ≤ (vz + r) / g := Int.ediv_nonneg (by omega) (by omega)
  have h8 : (vz + r) / g ≤ vz + r := Int.ediv_le_self g (by omega)
  exact w64 (by omega) (by omega)
theorem fallen_ev (z vz g : Int) (h : Small z vz g) :
    ∃ r, (0 ≤ z → IsRoot (vz * vz + 2 * g * z) r) ∧ Ev (fun k => fall_fallen.f k z vz g) (timeOf z vz g r, true) := by
  by_cases hz : z < 0
  · refine ⟨0, fun h0 => by omega, Ev.congr (f := fun _ => some (0, true)) (fun k => ?_) ?_⟩
    · unfold fall_fallen.f; rw [if_pos hz]
    · unfold timeOf; rw [if_pos hz]; exact Ev.now _
  · have hz' : 0 ≤ z := by omega
    have hb := disc_bounds z vz g h hz'
    have e : 2 * g * z = 2 * (g * z) := by grind
    obtain ⟨r, hr, he⟩ := fix_sqrt_ev (vz * vz + 2 * g * z) (by omega) (by omega)
    refine ⟨r, fun _ => hr, ?_⟩
    have ht := time_wrap z vz g r h hz' hr
    refine Ev.congr (f := fun k => (fix_Sqrt.f k (vz * vz + 2 * g * z)).bind fun b => (if g = 0 then (none) else (some (wrap64 (Int.tdiv (wrap64 (vz + b.1)) g), b.2)))) (fun k => ?_) (Ev.bind he ?_)
    · unfold fall_fallen.f; rw [if_neg hz, disc_wrap z vz g h hz']
    · refine Ev.congr (f := fun _ => some (timeOf z vz g r, true)) (fun k => ?_) (Ev.now _)
      have : ¬ g = 0 := by have := h.2.2; omega
      rw [if_neg this]
      show some (wrap64 (Int.tdiv (wrap64 (vz + r)) g), true) = _
      rw [ht]; unfold timeOf; rw [if_neg hz]
end Go.Proofs.Ytfeekdoakoabeaa.Q
