/- The fall: what the program's fall package answers, in plain numbers. -/
import Derived.Test.YtfeekdoakoabeaaGx26
import Derived.Test.YtfeekdoakoabeaaGx5
import Derived.Test.YtfeekdoakoabeaaArith
import Derived.Test.YtfeekdoakoabeaaRoot
import Derived.Test.YtfeekdoakoabeaaWideBase
import Derived.Test.YtfeekdoakoabeaaWideAdd
namespace Go.Proofs.Ytfeekdoakoabeaa.Q
open Go.RowKit Go.Proofs.Ytfeekdoakoabeaa.G Go.Proofs.YtfeekdoakoabeaaW.PrintWords Go.Proofs.YtfeekdoakoabeaaW.PrintLast Go.Proofs.YtfeekdoakoabeaaW.PrintMore
def May (z vz g : Int) : Prop := (-2147483648 ≤ z ∧ z ≤ 2147483648) ∧ (-131072 ≤ vz ∧ vz ≤ 131072) ∧ (1 ≤ g ∧ g ≤ 100)
instance (z vz g : Int) : Decidable (May z vz g) := inferInstanceAs (Decidable (_ ∧ _))
theorem within_plain (n lo hi : Int) : fall_within.f n lo hi = some (decide (lo ≤ n ∧ n ≤ hi)) := by
  unfold fall_within.f
  by_cases h : n ≥ lo
  · rw [if_pos h]; congr 1; apply decide_eq_decide.mpr; omega
  · rw [if_neg h]; congr 1; symm; apply decide_eq_false; omega
theorem may_plain (z vz g : Int) : fall_may.f z vz g = some (decide (May z vz g)) := by
  unfold fall_may.f
  simp only [within_plain, Option.bind_some, decide_eq_true_eq]
  unfold May
  by_cases h1 : -2147483648 ≤ z ∧ z ≤ 2147483648
  · rw [if_pos h1]
    by_cases h2 : -131072 ≤ vz ∧ vz ≤ 131072
    · rw [if_pos h2]; congr 1; apply decide_eq_decide.mpr; omega
    · rw [if_neg h2]; congr 1; symm; apply decide_eq_false; omega
  · rw [if_neg h1]; congr 1; symm; apply decide_eq_false; omega
def Small (z vz g : Int) : Prop := (-4294967296 ≤ z ∧ z ≤ 4294967296) ∧ (-262144 ≤ vz ∧ vz ≤ 262144) ∧ (1 ≤ g ∧ g ≤ 100)
theorem disc_bounds (z vz g : Int) (h : Small z vz g) (hz : 0 ≤ z) :
    0 ≤ vz * vz ∧ vz * vz ≤ 68719476736 ∧ 0 ≤ g * z ∧ g * z ≤ 429496729600 := by
  obtain ⟨⟨_, h2⟩, ⟨h3, h4⟩, ⟨h5, h6⟩⟩ := h
  refine ⟨?_, ?_, Int.mul_nonneg (by omega) hz, ?_⟩
  · by_cases c : 0 ≤ vz
    · exact Int.mul_nonneg c c
    · have := Int.mul_nonneg (show 0 ≤ -vz by omega) (show 0 ≤ -vz by omega); grind
  · by_cases c : 0 ≤ vz
    · exact Int.mul_le_mul (show vz ≤ 262144 by omega) (show vz ≤ 262144 by omega) c (by decide)
    · have := Int.mul_le_mul (show -vz ≤ 262144 by omega) (show -vz ≤ 262144 by omega) (show 0 ≤ -vz by omega) (by decide); grind
  · exact Int.mul_le_mul h6 h2 hz (by decide)
theorem root_ge (z vz g r : Int) (h : Small z vz g) (hz : 0 ≤ z) (hr : IsRoot (vz * vz + 2 * g * z) r) : -vz ≤ r ∧ vz ≤ r ∧ r ≤ 1048576 := by
  have hb := disc_bounds z vz g h hz
  obtain ⟨⟨_, h2⟩, ⟨h3, h4⟩, ⟨h5, h6⟩⟩ := h
  obtain ⟨r0, r1, r2⟩ := hr
  have e : 2 * g * z = 2 * (g * z) := by grind
  rw [e] at r1 r2
  refine ⟨?_, ?_, ?_⟩
  · by_cases c : 0 ≤ -vz
    · have := sq_lt c (show (-vz) * (-vz) < (r + 1) * (r + 1) by have : (-vz) * (-vz) = vz * vz := by grind
                                                                 omega) (by omega)
      omega
    · omega
  · by_cases c : 0 ≤ vz
    · have := sq_lt c (show vz * vz < (r + 1) * (r + 1) by omega) (by omega)
      omega
    · omega
  · have := sq_lt r0 (show r * r < 1048577 * 1048577 by omega) (by decide)
    omega
def timeOf (z vz g r : Int) : Int := if z < 0 then 0 else (vz + r) / g
theorem disc_wrap (z vz g : Int) (h : Small z vz g) (hz : 0 ≤ z) :
    wrap64 ((wrap64 (vz * vz)) + (wrap64 ((wrap64 (2 * g)) * z))) = vz * vz + 2 * g * z := by
  have hb := disc_bounds z vz g h hz
  obtain ⟨_, _, ⟨h5, h6⟩⟩ := h
  have e : 2 * g * z = 2 * (g * z) := by grind
  rw [w64 (x := 2 * g) (by omega) (by omega), e, w64 (x := vz * vz) (by omega) (by omega), w64 (x := 2 * (g * z)) (by omega) (by omega), w64 (by omega) (by omega)]
theorem time_wrap (z vz g r : Int) (h : Small z vz g) (hz : 0 ≤ z) (hr : IsRoot (vz * vz + 2 * g * z) r) :
    wrap64 (Int.tdiv (wrap64 (vz + r)) g) = (vz + r) / g := by
  have hg := root_ge z vz g r h hz hr
  obtain ⟨_, ⟨h3, h4⟩, ⟨h5, h6⟩⟩ := h
  rw [w64 (x := vz + r) (by omega) (by omega), Int.tdiv_eq_ediv_of_nonneg (by omega)]
  have h7 : 0 ≤ (vz + r) / g := Int.ediv_nonneg (by omega) (by omega)
  have h8 : (vz + r) / g ≤ vz + r := Int.ediv_le_self g (by omega)
  exact w64 (by omega) (by omega)
theorem fallen_ev (z vz g : Int) (h : Small z vz g) :
    ∃ r, (0 ≤ z → IsRoot (vz * vz + 2 * g * z) r) ∧ Ev (fun k => fall_fallen.f k z vz g) (timeOf z vz g r, true) := by
  by_cases hz : z < 0
  · refine ⟨0, fun h0 => by omega, Ev.congr (f := fun _ => some (0, true)) (fun k => ?_) ?_⟩
    · unfold fall_fallen.f; rw [if_pos hz]
    · unfold timeOf; rw [if_pos hz]; exact Ev.now _
  · have hz' : 0 ≤ z := by omega
    have hb := disc_bounds z vz g h hz'
    have e : 2 * g * z = 2 * (g * z) := by grind
    obtain ⟨r, hr, he⟩ := fix_sqrt_ev (vz * vz + 2 * g * z) (by omega) (by omega)
    refine ⟨r, fun _ => hr, ?_⟩
    have ht := time_wrap z vz g r h hz' hr
    refine Ev.congr (f := fun k => (fix_Sqrt.f k (vz * vz + 2 * g * z)).bind fun b => (if g = 0 then (none) else (some (wrap64 (Int.tdiv (wrap64 (vz + b.1)) g), b.2)))) (fun k => ?_) (Ev.bind he ?_)
    · unfold fall_fallen.f; rw [if_neg hz, disc_wrap z vz g h hz']
    · refine Ev.congr (f := fun _ => some (timeOf z vz g r, true)) (fun k => ?_) (Ev.now _)
      have : ¬ g = 0 := by have := h.2.2; omega
      rw [if_neg this]
      show some (wrap64 (Int.tdiv (wrap64 (vz + r)) g), true) = _
      rw [ht]; unfold timeOf; rw [if_neg hz]
theorem ref_time_ev (z vz g : Int) (h : Small z vz g) :
    ∃ r, (0 ≤ z → IsRoot (vz * vz + 2 * g * z) r) ∧ Ev (fun k => apogeeref17_Time.f k z vz g) (timeOf z vz g r) := by
  by_cases hz : z < 0
  · refine ⟨0, fun h0 => by omega, Ev.congr (f := fun _ => some 0) (fun k => ?_) ?_⟩
    · unfold apogeeref17_Time.f; rw [if_pos hz]
    · unfold timeOf; rw [if_pos hz]; exact Ev.now _
  · have hz' : 0 ≤ z := by omega
    have hb := disc_bounds z vz g h hz'
    have e : 2 * g * z = 2 * (g * z) := by grind
    obtain ⟨r, hr, he⟩ := ref_root_ev (vz * vz + 2 * g * z) (by omega) (by omega)
    refine ⟨r, fun _ => hr, ?_⟩
    have ht := time_wrap z vz g r h hz' hr
    refine Ev.congr (f := fun k => (apogeeref17_root.f k (vz * vz + 2 * g * z)).bind fun t => (if g = 0 then (none) else (some (wrap64 (Int.tdiv (wrap64 (vz + t)) g))))) (fun k => ?_) (Ev.bind he ?_)
    · unfold apogeeref17_Time.f; rw [if_neg hz, disc_wrap z vz g h hz']
    · refine Ev.congr (f := fun _ => some (timeOf z vz g r)) (fun k => ?_) (Ev.now _)
      have : ¬ g = 0 := by have := h.2.2; omega
      rw [if_neg this, ht]; unfold timeOf; rw [if_neg hz]
theorem May.small {z vz g : Int} (h : May z vz g) : Small z vz g := by
  unfold May at h; unfold Small; omega
def above (z vz g t : Int) : Int := 2 * z + 2 * vz * t - g * t * t
theorem above_bounds (z vz g t : Int) (h : May z vz g) (ht : 0 ≤ t ∧ t ≤ 16777216) :
    -2199023255552 ≤ vz * t ∧ vz * t ≤ 2199023255552 ∧ 0 ≤ g * t ∧ g * t ≤ 1677721600 ∧ 0 ≤ g * t * t ∧ g * t * t ≤ 28147497671065600 := by
  obtain ⟨_, ⟨h3, h4⟩, ⟨h5, h6⟩⟩ := h
  have a1 : vz * t ≤ 131072 * t := Int.mul_le_mul_of_nonneg_right h4 ht.1
  have a2 : -131072 * t ≤ vz * t := Int.mul_le_mul_of_nonneg_right h3 ht.1
  have a3 : 0 ≤ g * t := Int.mul_nonneg (by omega) ht.1
  have a4 : g * t ≤ 100 * t := Int.mul_le_mul_of_nonneg_right h6 ht.1
  have a5 : 0 ≤ g * t * t := Int.mul_nonneg a3 ht.1
  have a6 : g * t * t ≤ 1677721600 * 16777216 := Int.mul_le_mul (by omega) ht.2 ht.1 (by decide)
  omega
theorem ref_above (z vz g t : Int) (h : May z vz g) (ht : 0 ≤ t ∧ t ≤ 16777216) : apogeeref17_Above.f z vz g t = some (above z vz g t) := by
  have hb := above_bounds z vz g t h ht
  have hm := h
  unfold May at hm
  have e1 : 2 * vz * t = 2 * (vz * t) := by grind
  unfold apogeeref17_Above.f
  rw [w64 (x := 2 * z) (by omega) (by omega), w64 (x := 2 * vz) (by omega) (by omega), w64 (x := 2 * vz * t) (by omega) (by omega), w64 (x := g * t) (by omega) (by omega),
    w64 (x := g * t * t) (by omega) (by omega), w64 (x := 2 * z + 2 * vz * t) (by omega) (by omega), w64 (by omega) (by omega)]
  rfl
end Go.Proofs.Ytfeekdoakoabeaa.Q
