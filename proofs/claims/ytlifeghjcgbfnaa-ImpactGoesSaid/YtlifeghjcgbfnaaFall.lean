/- The fall: what the program's fall package answers, in plain numbers. -/
import Derived.Test.YtlifeghjcgbfnaaGx5
import Derived.Test.YtlifeghjcgbfnaaGx6
import Derived.Test.YtlifeghjcgbfnaaGx7
import Derived.Test.YtlifeghjcgbfnaaArith
import Derived.Test.YtlifeghjcgbfnaaRoot
import Derived.Test.YtlifeghjcgbfnaaWideAdd
namespace Go.Proofs.Ytlifeghjcgbfnaa.Q
open Go.RowKit Go.Proofs.Ytlifeghjcgbfnaa.G Go.Proofs.YtlifeghjcgbfnaaW.PrintWords Go.Proofs.YtlifeghjcgbfnaaW.PrintLast Go.Proofs.YtlifeghjcgbfnaaW.PrintMore

def May (z vz g : Int) : Prop := (-2147483648 ≤ z ∧ z ≤ 2147483648) ∧ (-131072 ≤ vz ∧ vz ≤ 131072) ∧ (1 ≤ g ∧ g ≤ 100)
instance (z vz g : Int) : Decidable (May z vz g) := inferInstanceAs (Decidable (_ ∧ _))

theorem within_plain (n lo hi : Int) : fall_within.f n lo hi = some (decide (lo ≤ n ∧ n ≤ hi)) := by
  unfold fall_within.f
  by_cases h : n ≥ lo
  · rw [if_pos h]; congr 1; apply decide_eq_decide.mpr; omega
  · rw [if_neg h]; congr 1; symm; apply decide_eq_false; omega

theorem may_plain (z vz g : Int) : fall_may.f z vz g = some (decide (May z vz g)) := by
  unfold fall_may.f
  simp only [within_plain, Option.bind_some, decide_eq_true_eq]
  unfold May
  by_cases h1 : -2147483648 ≤ z ∧ z ≤ 2147483648
  · rw [if_pos h1]
    by_cases h2 : -131072 ≤ vz ∧ vz ≤ 131072
    · rw [if_pos h2]; congr 1; apply decide_eq_decide.mpr; omega
    · rw [if_neg h2]; congr 1; symm; apply decide_eq_false; omega
  · rw [if_neg h1]; congr 1; symm; apply decide_eq_false; omega

theorem ref_may_plain (z vz g : Int) : apogeeref17_May.f z vz g = some (decide (May z vz g)) := by
  unfold apogeeref17_May.f May
  by_cases h1 : z ≥ -2147483648
  · rw [if_pos h1]
    by_cases h2 : z ≤ 2147483648
    · rw [if_pos h2]
      by_cases h3 : vz ≥ -131072
      · rw [if_pos h3]
        by_cases h4 : vz ≤ 131072
        · rw [if_pos h4]
          by_cases h5 : g ≥ 1
          · rw [if_pos h5]; congr 1; apply decide_eq_decide.mpr; omega
          · rw [if_neg h5]; congr 1; symm; apply decide_eq_false; omega
        · rw [if_neg h4]; congr 1; symm; apply decide_eq_false; omega
      · rw [if_neg h3]; congr 1; symm; apply decide_eq_false; omega
    · rw [if_neg h2]; congr 1; symm; apply decide_eq_false; omega
  · rw [if_neg h1]; congr 1; symm; apply decide_eq_false; omega

/-- numbers of a fall that can be reckoned with, eps beside them -/
def Small (z vz g : Int) : Prop := (-4294967296 ≤ z ∧ z ≤ 4294967296) ∧ (-262144 ≤ vz ∧ vz ≤ 262144) ∧ (1 ≤ g ∧ g ≤ 100)

/-- what the root is taken of -/
theorem disc_bounds (z vz g : Int) (h : Small z vz g) (hz : 0 ≤ z) :
    0 ≤ vz * vz ∧ vz * vz ≤ 68719476736 ∧ 0 ≤ g * z ∧ g * z ≤ 429496729600 := by
  obtain ⟨⟨_, h2⟩, ⟨h3, h4⟩, ⟨h5, h6⟩⟩ := h
  refine ⟨?_, ?_, Int.mul_nonneg (by omega) hz, ?_⟩
  · by_cases c : 0 ≤ vz
    · exact Int.mul_nonneg c c
    · have := Int.mul_nonneg (show 0 ≤ -vz by omega) (show 0 ≤ -vz by omega); grind
  · by_cases c : 0 ≤ vz
    · exact Int.mul_le_mul (show vz ≤ 262144 by omega) (show vz ≤ 262144 by omega) c (by decide)
    · have := Int.mul_le_mul (show -vz ≤ 262144 by omega) (show -vz ≤ 262144 by omega) (show 0 ≤ -vz by omega) (by decide); grind
  · exact Int.mul_le_mul h6 h2 hz (by decide)

/-- the root is no less than the speed, either way -/
theorem root_ge (z vz g r : Int) (h : Small z vz g) (hz : 0 ≤ z) (hr : IsRoot (vz * vz + 2 * g * z) r) : -vz ≤ r ∧ vz ≤ r ∧ r ≤ 1048576 := by
  have hb := disc_bounds z vz g h hz
  obtain ⟨⟨_, h2⟩, ⟨h3, h4⟩, ⟨h5, h6⟩⟩ := h
  obtain ⟨r0, r1, r2⟩ := hr
  have e : 2 * g * z = 2 * (g * z) := by grind
  rw [e] at r1 r2
  refine ⟨?_, ?_, ?_⟩
  · by_cases c : 0 ≤ -vz
    · have := sq_lt c (show (-vz) * (-vz) < (r + 1) * (r + 1) by have : (-vz) * (-vz) = vz * vz := by grind
                                                                 omega) (by omega)
      omega
    · omega
  · by_cases c : 0 ≤ vz
    · have := sq_lt c (show vz * vz < (r + 1) * (r + 1) by omega) (by omega)
      omega
    · omega
  · have := sq_lt r0 (show r * r < 1048577 * 1048577 by omega) (by decide)
    omega

def timeOf (z vz g r : Int) : Int := if z < 0 then 0 else (vz + r) / g

theorem disc_wrap (z vz g : Int) (h : Small z vz g) (hz : 0 ≤ z) :
    wrap64 ((wrap64 (vz * vz)) + (wrap64 ((wrap64 (2 * g)) * z))) = vz * vz + 2 * g * z := by
  have hb := disc_bounds z vz g h hz
  obtain ⟨_, _, ⟨h5, h6⟩⟩ := h
  have e : 2 * g * z = 2 * (g * z) := by grind
  rw [w64 (x := 2 * g) (by omega) (by omega), e, w64 (x := vz * vz) (by omega) (by omega), w64 (x := 2 * (g * z)) (by omega) (by omega), w64 (by omega) (by omega)]

theorem time_wrap (z vz g r : Int) (h : Small z vz g) (hz : 0 ≤ z) (hr : IsRoot (vz * vz + 2 * g * z) r) :
    wrap64 (Int.tdiv (wrap64 (vz + r)) g) = (vz + r) / g := by
  have hg := root_ge z vz g r h hz hr
  obtain ⟨_, ⟨h3, h4⟩, ⟨h5, h6⟩⟩ := h
  rw [w64 (x := vz + r) (by omega) (by omega), Int.tdiv_eq_ediv_of_nonneg (by omega)]
  have h7 : 0 ≤ (vz + r) / g := Int.ediv_nonneg (by omega) (by omega)
  have h8 : (vz + r) / g ≤ vz + r := Int.ediv_le_self g (by omega)
  exact w64 (by omega) (by omega)

theorem fallen_ev (z vz g : Int) (h : Small z vz g) :
    ∃ r, (0 ≤ z → IsRoot (vz * vz + 2 * g * z) r) ∧ Ev (fun k => fall_fallen.f k z vz g) (timeOf z vz g r, true) := by
  by_cases hz : z < 0
  · refine ⟨0, fun h0 => by omega, Ev.congr (f := fun _ => some (0, true)) (fun k => ?_) ?_⟩
    · unfold fall_fallen.f; rw [if_pos hz]
    · unfold timeOf; rw [if_pos hz]; exact Ev.now _
  · have hz' : 0 ≤ z := by omega
    have hb := disc_bounds z vz g h hz'
    have e : 2 * g * z = 2 * (g * z) := by grind
    obtain ⟨r, hr, he⟩ := fix_sqrt_ev (vz * vz + 2 * g * z) (by omega) (by omega)
    refine ⟨r, fun _ => hr, ?_⟩
    have ht := time_wrap z vz g r h hz' hr
    refine Ev.congr (f := fun k => (fix_Sqrt.f k (vz * vz + 2 * g * z)).bind fun b => (if g = 0 then (none) else (some (wrap64 (Int.tdiv (wrap64 (vz + b.1)) g), b.2)))) (fun k => ?_) (Ev.bind he ?_)
    · unfold fall_fallen.f; rw [if_neg hz, disc_wrap z vz g h hz']
    · refine Ev.congr (f := fun _ => some (timeOf z vz g r, true)) (fun k => ?_) (Ev.now _)
      have : ¬ g = 0 := by have := h.2.2; omega
      rw [if_neg this]
      show some (wrap64 (Int.tdiv (wrap64 (vz + r)) g), true) = _
      rw [ht]; unfold timeOf; rw [if_neg hz]

theorem ref_time_ev (z vz g : Int) (h : Small z vz g) :
    ∃ r, (0 ≤ z → IsRoot (vz * vz + 2 * g * z) r) ∧ Ev (fun k => apogeeref17_Time.f k z vz g) (timeOf z vz g r) := by
  by_cases hz : z < 0
  · refine ⟨0, fun h0 => by omega, Ev.congr (f := fun _ => some 0) (fun k => ?_) ?_⟩
    · unfold apogeeref17_Time.f; rw [if_pos hz]
    · unfold timeOf; rw [if_pos hz]; exact Ev.now _
  · have hz' : 0 ≤ z := by omega
    have hb := disc_bounds z vz g h hz'
    have e : 2 * g * z = 2 * (g * z) := by grind
    obtain ⟨r, hr, he⟩ := ref_root_ev (vz * vz + 2 * g * z) (by omega) (by omega)
    refine ⟨r, fun _ => hr, ?_⟩
    have ht := time_wrap z vz g r h hz' hr
    refine Ev.congr (f := fun k => (apogeeref17_root.f k (vz * vz + 2 * g * z)).bind fun t => (if g = 0 then (none) else (some (wrap64 (Int.tdiv (wrap64 (vz + t)) g))))) (fun k => ?_) (Ev.bind he ?_)
    · unfold apogeeref17_Time.f; rw [if_neg hz, disc_wrap z vz g h hz']
    · refine Ev.congr (f := fun _ => some (timeOf z vz g r)) (fun k => ?_) (Ev.now _)
      have : ¬ g = 0 := by have := h.2.2; omega
      rw [if_neg this, ht]; unfold timeOf; rw [if_neg hz]

theorem timeOf_unique (z vz g r s : Int) (h1 : 0 ≤ z → IsRoot (vz * vz + 2 * g * z) r) (h2 : 0 ≤ z → IsRoot (vz * vz + 2 * g * z) s) : timeOf z vz g r = timeOf z vz g s := by
  unfold timeOf
  by_cases hz : z < 0
  · rw [if_pos hz, if_pos hz]
  · rw [if_neg hz, if_neg hz, isRoot_unique (h1 (by omega)) (h2 (by omega))]

theorem May.small {z vz g : Int} (h : May z vz g) : Small z vz g := by
  unfold May at h; unfold Small; omega

theorem time_ev (z vz g : Int) : ∃ t, Ev (fun k => fall_Time.f k z vz g) (t, decide (May z vz g)) ∧ (¬ May z vz g → t = 0) ∧ (May z vz g → Ev (fun k => apogeeref17_Time.f k z vz g) t) := by
  by_cases h : May z vz g
  · obtain ⟨r, hr, he⟩ := fallen_ev z vz g h.small
    obtain ⟨s, hs, he'⟩ := ref_time_ev z vz g h.small
    refine ⟨timeOf z vz g r, ?_, fun hn => absurd h hn, fun _ => by rw [timeOf_unique z vz g r s hr hs]; exact he'⟩
    rw [decide_eq_true h]
    refine Ev.congr (f := fun k => (fall_fallen.f k z vz g).bind fun b => some (b.1, b.2)) (fun k => ?_) (Ev.bind he (Ev.now _))
    unfold fall_Time.f; rw [may_plain]; simp only [Option.bind_some, decide_eq_true h, if_true]
  · refine ⟨0, ?_, fun _ => rfl, fun hn => absurd hn h⟩
    rw [decide_eq_false h]
    refine Ev.congr (f := fun k => some (0, false)) (fun k => ?_) (Ev.now _)
    unfold fall_Time.f; rw [may_plain]; simp only [Option.bind_some, decide_eq_false h]; rfl

def above (z vz g t : Int) : Int := 2 * z + 2 * vz * t - g * t * t

theorem sum3 (a b c : Int) (ha : Hi a) (hb : Hi b) (hc : Hi c) (hab : Hi (a + b)) (habc : Hi (a + b + c)) : Ev (fun k => fix_Sum.f k [a, b, c]) (a + b + c, true) := by
  have h0 : fix_Add.f 0 a = some (a, true) := by rw [fix_add 0 a (by decide) ha, Int.zero_add, if_pos ha]
  have h1 : fix_Add.f a b = some (a + b, true) := by rw [fix_add a b ha hb, if_pos hab]
  have h2 : fix_Add.f (a + b) c = some (a + b + c, true) := by rw [fix_add (a + b) c hab hc, if_pos habc]
  refine Ev.step (f := fun k => fix_Sum.l0 (k + 1) 0 [a, b, c] 3 0) (fun k => by unfold fix_Sum.f; rfl) ?_
  refine Ev.congr (f := fun k => fix_Sum.l0 k a [a, b, c] 3 1) (fun k => ?_) ?_
  · simp only [fix_Sum.l0]
    rw [if_pos (by decide), if_pos (by decide), if_pos (by simp), show rd [a, b, c] 0 = a from rfl, h0]
    simp only [Option.bind_some, if_true, show wrap64 (0 + 1) = 1 from w64 (by decide) (by decide)]
  refine Ev.step (f := fun k => fix_Sum.l0 k (a + b) [a, b, c] 3 2) (fun k => ?_) ?_
  · simp only [fix_Sum.l0]
    rw [if_pos (by decide), if_pos (by decide), if_pos (by simp), show rd [a, b, c] 1 = b from rfl, h1]
    simp only [Option.bind_some, if_true, show wrap64 (1 + 1) = 2 from w64 (by decide) (by decide)]
  refine Ev.step (f := fun k => fix_Sum.l0 k (a + b + c) [a, b, c] 3 3) (fun k => ?_) ?_
  · simp only [fix_Sum.l0]
    rw [if_pos (by decide), if_pos (by decide), if_pos (by simp), show rd [a, b, c] 2 = c from rfl, h2]
    simp only [Option.bind_some, if_true, show wrap64 (2 + 1) = 3 from w64 (by decide) (by decide)]
  refine Ev.step (f := fun k => some (a + b + c, true)) (fun k => ?_) (Ev.now _)
  simp only [fix_Sum.l0]
  rw [if_neg (by decide)]

theorem above_bounds (z vz g t : Int) (h : May z vz g) (ht : 0 ≤ t ∧ t ≤ 16777216) :
    -2199023255552 ≤ vz * t ∧ vz * t ≤ 2199023255552 ∧ 0 ≤ g * t ∧ g * t ≤ 1677721600 ∧ 0 ≤ g * t * t ∧ g * t * t ≤ 28147497671065600 := by
  obtain ⟨_, ⟨h3, h4⟩, ⟨h5, h6⟩⟩ := h
  have a1 : vz * t ≤ 131072 * t := Int.mul_le_mul_of_nonneg_right h4 ht.1
  have a2 : -131072 * t ≤ vz * t := Int.mul_le_mul_of_nonneg_right h3 ht.1
  have a3 : 0 ≤ g * t := Int.mul_nonneg (by omega) ht.1
  have a4 : g * t ≤ 100 * t := Int.mul_le_mul_of_nonneg_right h6 ht.1
  have a5 : 0 ≤ g * t * t := Int.mul_nonneg a3 ht.1
  have a6 : g * t * t ≤ 1677721600 * 16777216 := Int.mul_le_mul (by omega) ht.2 ht.1 (by decide)
  omega

theorem above_ev (z vz g t : Int) : ∃ y, Ev (fun k => fall_Above.f k z vz g t) (y, decide (May z vz g ∧ 0 ≤ t ∧ t ≤ 16777216)) ∧
    (¬ (May z vz g ∧ 0 ≤ t ∧ t ≤ 16777216) → y = 0) ∧ ((May z vz g ∧ 0 ≤ t ∧ t ≤ 16777216) → y = above z vz g t) := by
  by_cases h : May z vz g
  · by_cases ht : 0 ≤ t ∧ t ≤ 16777216
    · have hb := above_bounds z vz g t h ht
      have hm := h
      unfold May at hm
      have e1 : 2 * vz * t = 2 * (vz * t) := by grind
      have e2 : -g * t * t = -(g * t * t) := by grind
      have e3 : -g * t = -(g * t) := by grind
      refine ⟨above z vz g t, ?_, fun hn => absurd ⟨h, ht⟩ hn, fun _ => rfl⟩
      rw [decide_eq_true ⟨h, ht⟩]
      have hs := sum3 (2 * z) (2 * vz * t) (-g * t * t) (by unfold Hi; omega) (by unfold Hi; omega) (by unfold Hi; omega) (by unfold Hi; omega) (by unfold Hi; omega)
      have e4 : 2 * z + 2 * vz * t + -g * t * t = above z vz g t := by unfold above; omega
      rw [e4] at hs
      refine Ev.congr (f := fun k => (fix_Sum.f k [2 * z, 2 * vz * t, -g * t * t]).bind fun b => some (b.1, b.2)) (fun k => ?_) (Ev.bind hs (Ev.now _))
      unfold fall_Above.f
      rw [may_plain]
      simp only [Option.bind_some, decide_eq_true h, if_true, within_plain, decide_eq_true ht]
      rw [w64 (x := 2 * z) (by omega) (by omega), w64 (x := 2 * vz) (by omega) (by omega), w64 (x := 2 * vz * t) (by omega) (by omega), w64 (x := -g) (by omega) (by omega),
        w64 (x := -g * t) (by omega) (by omega), w64 (x := -g * t * t) (by omega) (by omega)]
    · refine ⟨0, ?_, fun _ => rfl, fun hn => absurd hn.2 ht⟩
      rw [decide_eq_false (fun hn => ht hn.2)]
      refine Ev.congr (f := fun _ => some (0, false)) (fun k => ?_) (Ev.now _)
      unfold fall_Above.f; rw [may_plain]; simp only [Option.bind_some, decide_eq_true h, if_true, within_plain, decide_eq_false ht]; rfl
  · refine ⟨0, ?_, fun _ => rfl, fun hn => absurd hn.1 h⟩
    rw [decide_eq_false (fun hn => h hn.1)]
    refine Ev.congr (f := fun _ => some (0, false)) (fun k => ?_) (Ev.now _)
    unfold fall_Above.f; rw [may_plain]; simp only [Option.bind_some, decide_eq_false h]; rfl

theorem ref_above (z vz g t : Int) (h : May z vz g) (ht : 0 ≤ t ∧ t ≤ 16777216) : apogeeref17_Above.f z vz g t = some (above z vz g t) := by
  have hb := above_bounds z vz g t h ht
  have hm := h
  unfold May at hm
  have e1 : 2 * vz * t = 2 * (vz * t) := by grind
  unfold apogeeref17_Above.f
  rw [w64 (x := 2 * z) (by omega) (by omega), w64 (x := 2 * vz) (by omega) (by omega), w64 (x := 2 * vz * t) (by omega) (by omega), w64 (x := g * t) (by omega) (by omega),
    w64 (x := g * t * t) (by omega) (by omega), w64 (x := 2 * z + 2 * vz * t) (by omega) (by omega), w64 (by omega) (by omega)]
  rfl

end Go.Proofs.Ytlifeghjcgbfnaa.Q
