/- FallTells, in plain numbers: of any numbers the program's time, height and top are the reference's, or refused; no condition. -/
import Derived.Test.YtlifeghjcgbfnaaGx5
import Derived.Test.YtlifeghjcgbfnaaGx6
import Derived.Test.YtlifeghjcgbfnaaArith
import Derived.Test.YtlifeghjcgbfnaaRoot
import Derived.Test.YtlifeghjcgbfnaaWideAdd
import Derived.Test.YtlifeghjcgbfnaaFall
namespace Go.Proofs.Ytlifeghjcgbfnaa.Pure
open Go.RowKit Go.Proofs.Ytlifeghjcgbfnaa.G Go.Proofs.Ytlifeghjcgbfnaa.Q Go.Proofs.YtlifeghjcgbfnaaW.PrintWords Go.Proofs.YtlifeghjcgbfnaaW.PrintLast Go.Proofs.YtlifeghjcgbfnaaW.PrintMore

def topOf (z vz g : Int) : Int := if vz < 0 then 2 * z else mx (mx (2 * z) (above z vz g (vz / g))) (above z vz g (vz / g + 1))

theorem quot (vz g : Int) (h : 0 ≤ vz) (h1 : vz ≤ 131072) (hg : 1 ≤ g) : wrap64 (Int.tdiv vz g) = vz / g ∧ 0 ≤ vz / g ∧ vz / g ≤ 131072 ∧ wrap64 (wrap64 (Int.tdiv vz g) + 1) = vz / g + 1 := by
  have h7 : 0 ≤ vz / g := Int.ediv_nonneg h (by omega)
  have h8 : vz / g ≤ vz := Int.ediv_le_self g h
  rw [Int.tdiv_eq_ediv_of_nonneg h, w64 (x := vz / g) (by omega) (by omega), w64 (x := vz / g + 1) (by omega) (by omega)]
  omega

theorem above_some (z vz g t : Int) (h : May z vz g) (ht : 0 ≤ t ∧ t ≤ 16777216) : Ev (fun k => fall_Above.f k z vz g t) (above z vz g t, true) := by
  obtain ⟨y, he, _, hy⟩ := above_ev z vz g t
  rw [decide_eq_true ⟨h, ht⟩, hy ⟨h, ht⟩] at he
  exact he

theorem top_ev (z vz g : Int) : ∃ c, Ev (fun k => fall_Top.f k z vz g) (c, decide (May z vz g)) ∧ (¬ May z vz g → c = 0) ∧ (May z vz g → c = topOf z vz g) := by
  by_cases h : May z vz g
  · refine ⟨topOf z vz g, ?_, fun hn => absurd h hn, fun _ => rfl⟩
    rw [decide_eq_true h]
    have hm := h
    unfold May at hm
    by_cases hv : vz ≥ 0
    · obtain ⟨q1, q2, q3, q4⟩ := quot vz g hv (by omega) (by omega)
      have e1 := above_some z vz g (vz / g) h (by omega)
      have e2 := above_some z vz g (vz / g + 1) h (by omega)
      refine Ev.congr (f := fun k => fall_Top.l0 k z vz g (2 * z) [vz / g, vz / g + 1] 2 0) (fun k => ?_) ?_
      · unfold fall_Top.f
        rw [may_plain]
        simp only [Option.bind_some, decide_eq_true h, if_true]
        rw [if_pos hv, if_neg (by omega), q4, q1, w64 (x := 2 * z) (by omega) (by omega)]
        rfl
      refine Ev.step (f := fun k => (fall_Above.f k z vz g (vz / g)).bind fun b => (if b.2 = true then (fall_Top.l0 k z vz g (mx (2 * z) b.1) [vz / g, vz / g + 1] 2 1) else (some (0, false)))) (fun k => ?_) (Ev.bind e1 ?_)
      · simp only [fall_Top.l0]
        rw [if_pos (by decide), if_pos (by decide), if_pos (by simp), show rd [vz / g, vz / g + 1] 0 = vz / g from rfl, show wrap64 (0 + 1) = 1 from w64 (by decide) (by decide)]
      refine Ev.congr (f := fun k => fall_Top.l0 k z vz g (mx (2 * z) (above z vz g (vz / g))) [vz / g, vz / g + 1] 2 1) (fun k => by rw [if_pos rfl]) ?_
      refine Ev.step (f := fun k => (fall_Above.f k z vz g (vz / g + 1)).bind fun b => (if b.2 = true then (fall_Top.l0 k z vz g (mx (mx (2 * z) (above z vz g (vz / g))) b.1) [vz / g, vz / g + 1] 2 2) else (some (0, false)))) (fun k => ?_) (Ev.bind e2 ?_)
      · simp only [fall_Top.l0]
        rw [if_pos (by decide), if_pos (by decide), if_pos (by simp), show rd [vz / g, vz / g + 1] 1 = vz / g + 1 from rfl, show wrap64 (1 + 1) = 2 from w64 (by decide) (by decide)]
      refine Ev.congr (f := fun k => fall_Top.l0 k z vz g (mx (mx (2 * z) (above z vz g (vz / g))) (above z vz g (vz / g + 1))) [vz / g, vz / g + 1] 2 2) (fun k => by rw [if_pos rfl]) ?_
      refine Ev.step (f := fun _ => some (topOf z vz g, true)) (fun k => ?_) (Ev.now _)
      simp only [fall_Top.l0]
      rw [if_neg (by decide)]
      unfold topOf; rw [if_neg (by omega)]
    · refine Ev.congr (f := fun _ => some (topOf z vz g, true)) (fun k => ?_) (Ev.now _)
      unfold fall_Top.f
      rw [may_plain]
      simp only [Option.bind_some, decide_eq_true h, if_true]
      rw [if_neg hv, w64 (x := 2 * z) (by omega) (by omega)]
      unfold topOf; rw [if_pos (by omega)]
  · refine ⟨0, ?_, fun _ => rfl, fun hn => absurd hn h⟩
    rw [decide_eq_false h]
    refine Ev.congr (f := fun _ => some (0, false)) (fun k => ?_) (Ev.now _)
    unfold fall_Top.f; rw [may_plain]; simp only [Option.bind_some, decide_eq_false h]; rfl

theorem ref_top (z vz g : Int) (h : May z vz g) : apogeeref17_Top.f z vz g = some (topOf z vz g) := by
  have hm := h
  unfold May at hm
  unfold apogeeref17_Top.f topOf
  by_cases hv : vz < 0
  · rw [if_pos hv, if_pos hv, w64 (x := 2 * z) (by omega) (by omega)]
  · obtain ⟨q1, q2, q3, q4⟩ := quot vz g (by omega) (by omega) (by omega)
    rw [if_neg hv, if_neg hv, if_neg (by omega), q4, q1, ref_above z vz g _ h (by omega), ref_above z vz g _ h (by omega), w64 (x := 2 * z) (by omega) (by omega)]
    rfl

theorem awake17 (k : Nat) (h : 100 ≤ k) : apogeelaw17_awake.f k = some true := at_rounds (fun k => apogeelaw17_awake.mono k) h (by decide +kernel)

theorem FallTells : apogeelaw17_FallTells.Pure := by
  intro z vz g t _ _ _ _
  obtain ⟨a, ⟨K1, h1⟩, h1n, h1r⟩ := time_ev z vz g
  obtain ⟨y, ⟨K2, h2⟩, h2n, h2y⟩ := above_ev z vz g t
  obtain ⟨c, ⟨K3, h3⟩, h3n, h3y⟩ := top_ev z vz g
  dsimp only at h1 h2 h3
  by_cases h : May z vz g
  · obtain ⟨K4, h4⟩ := h1r h
    dsimp only at h4
    refine ⟨K1 + K2 + K3 + K4 + 101, ?_⟩
    unfold apogeelaw17_FallTells.f
    rw [h1 _ (by omega), h2 _ (by omega), h3 _ (by omega), ref_may_plain, awake17 _ (by omega)]
    simp only [Option.bind_some, decide_eq_true h, if_true]
    rw [if_neg (by decide), if_neg (by decide)]
    by_cases ht : t ≥ 0
    · rw [if_pos ht]
      simp only [apogeelaw17_FallTells.j0]
      rw [if_neg (by
        have : decide (May z vz g ∧ 0 ≤ t ∧ t ≤ 16777216) = decide (t ≤ 16777216) := decide_eq_decide.mpr ⟨fun q => q.2.2, fun q => ⟨h, ht, q⟩⟩
        rw [this]; simp), if_pos trivial, h4 _ (by omega)]
      simp only [Option.bind_some, if_true]
      rw [ref_top z vz g h]
      simp only [Option.bind_some]
      rw [if_pos (h3y h)]
      by_cases hq : t ≤ 16777216
      · rw [if_pos (decide_eq_true ⟨h, ht, hq⟩), ref_above z vz g t h ⟨ht, hq⟩, h2y ⟨h, ht, hq⟩]
        simp
      · have hne : ¬ (May z vz g ∧ 0 ≤ t ∧ t ≤ 16777216) := fun q => hq q.2.2
        rw [if_neg (by simp [decide_eq_false hne]), if_pos (h2n hne)]
    · have hne : ¬ (May z vz g ∧ 0 ≤ t ∧ t ≤ 16777216) := fun q => ht q.2.1
      rw [if_neg ht]
      simp only [apogeelaw17_FallTells.j0]
      rw [if_neg (by simp [decide_eq_false hne]), if_pos trivial, h4 _ (by omega)]
      simp only [Option.bind_some, if_true]
      rw [ref_top z vz g h]
      simp only [Option.bind_some]
      rw [if_pos (h3y h), if_neg (by simp [decide_eq_false hne]), if_pos (h2n hne)]
  · have hne : ¬ (May z vz g ∧ 0 ≤ t ∧ t ≤ 16777216) := fun q => h q.1
    refine ⟨K1 + K2 + K3 + 101, ?_⟩
    unfold apogeelaw17_FallTells.f
    rw [h1 _ (by omega), h2 _ (by omega), h3 _ (by omega), ref_may_plain, awake17 _ (by omega)]
    simp only [Option.bind_some, decide_eq_false h, decide_eq_false hne, if_true]
    rw [if_neg (by decide), if_neg (by decide), if_neg (by decide)]
    simp only [apogeelaw17_FallTells.j0]
    rw [if_neg (by decide), if_neg (by decide), if_pos (h1n h), if_pos (h2n hne), h3n h]
    rfl

end Go.Proofs.Ytlifeghjcgbfnaa.Pure
