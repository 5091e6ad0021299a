/- ImpactGoes, in plain numbers: a cycle of free fall leaves the box as it was, and the time is one less; no condition. -/
import Derived.Test.YtlifeghjcgbfnaaGx16
import Derived.Test.YtlifeghjcgbfnaaGx17
import Derived.Test.YtlifeghjcgbfnaaGx18
import Derived.Test.YtlifeghjcgbfnaaGx19
import Derived.Test.YtlifeghjcgbfnaaGx7
import Derived.Test.YtlifeghjcgbfnaaArith
import Derived.Test.YtlifeghjcgbfnaaRoot
import Derived.Test.YtlifeghjcgbfnaaWideAdd
import Derived.Test.YtlifeghjcgbfnaaFall
import Derived.Test.YtlifeghjcgbfnaaGeo
import Derived.Test.YtlifeghjcgbfnaaPoint
import Derived.Test.YtlifeghjcgbfnaaImpact
import Derived.Test.YtlifeghjcgbfnaaStImpactGoes
namespace Go.Proofs.Ytlifeghjcgbfnaa.Pure
open Go.RowKit Go.Proofs.Ytlifeghjcgbfnaa.G Go.Proofs.Ytlifeghjcgbfnaa.Q Go.Proofs.Ytlifeghjcgbfnaa.Geo Go.Proofs.YtlifeghjcgbfnaaW.PrintWords Go.Proofs.YtlifeghjcgbfnaaW.PrintLast Go.Proofs.YtlifeghjcgbfnaaW.PrintMore

theorem awake18 (k : Nat) (h : 100 ≤ k) : apogeelaw18_awake.f k = some true := at_rounds (fun k => apogeelaw18_awake.mono k) h (by decide +kernel)

set_option linter.unusedVariables false
set_option linter.unusedSimpArgs false
/-- free fall: what the root is taken of stays -/
theorem disc_free (z w h : Int) : (w - 2 * h) * (w - 2 * h) + 2 * (2 * h) * (z + w - h) = w * w + 2 * (2 * h) * z := by grind

theorem time_free (z w h r s : Int) (hh : 1 ≤ h) (hz : 0 ≤ z) (hz' : 0 ≤ z + w - h) (hr : IsRoot (w * w + 2 * (2 * h) * z) r) (hs : IsRoot ((w - 2 * h) * (w - 2 * h) + 2 * (2 * h) * (z + w - h)) s) :
    timeOf (z + w - h) (w - 2 * h) (2 * h) s + 1 = timeOf z w (2 * h) r := by
  rw [disc_free] at hs
  have e := isRoot_unique hr hs
  subst e
  unfold timeOf
  rw [if_neg (by omega), if_neg (by omega), show w + r = (w - 2 * h + r) + (2 * h) * 1 from by omega, Int.add_mul_ediv_left _ _ (by omega)]

theorem gone (x v e t : Int) : bl (x + v) v 0 t (t + 2) = bl x v 0 (t + 1) (t + 1 + 2) ∧ bh (x + v) v 0 t (t + 2) = bh x v 0 (t + 1) (t + 1 + 2) := by
  have e1 : v * (t + 1) = v * t + v := by grind
  have e2 : v * (t + 1 + 2) = v * (t + 2) + v := by grind
  have c1 := mn_or (v * t) (v * (t + 2))
  have c2 := mx_or (v * t) (v * (t + 2))
  have c3 := mn_or (v * (t + 1)) (v * (t + 1 + 2))
  have c4 := mx_or (v * (t + 1)) (v * (t + 1 + 2))
  unfold bl bh
  simp only [Int.sub_zero, Int.add_zero]
  omega

theorem goes (a b x y z u v w h : Int) (hx : -1073741824 < x ∧ x < 1073741824) (hy : -1073741824 < y ∧ y < 1073741824) (hz : 0 ≤ z ∧ z ≤ 1073741823) (hu : -65536 < u ∧ u < 65536) (hv : -65536 < v ∧ v < 65536) (hw : -65536 < w ∧ w < 65536) (hh : 1 ≤ h ∧ h ≤ 50) :
    ∃ b1 b2 b3 b4, Ev (fun k => impact_Box.f k a b x y z u v w (2 * h) 0) (b1, b2, b3, b4, true) ∧
      (0 ≤ z + w - h → Ev (fun k => impact_Box.f k a b (x + u) (y + v) (z + w - h) u v (w - 2 * h) (2 * h) 0) (b1, b2, b3, b4, true) ∧
        ∃ t, Ev (fun k => apogeeref17_Time.f k (z + w - h) (w - 2 * h) (2 * h)) t ∧ Ev (fun k => apogeeref17_Time.f k z w (2 * h)) (t + 1) ∧ 0 ≤ t ∧ t ≤ 1310720) := by
  have m1 : May z w (2 * h) := by unfold May; omega
  obtain ⟨r, s, hr, hs, e1⟩ := box_ev a b x y z u v w (2 * h) 0 m1 (by omega) (by omega) (by omega) (by omega) (by omega)
  simp only [Int.sub_zero, Int.add_zero] at hr hs e1
  have hr1 := hr hz.1
  have hs1 := hs hz.1
  have er := isRoot_unique hr1 hs1
  subst er
  refine ⟨_, _, _, _, e1, fun hz' => ?_⟩
  have m2 : May (z + w - h) (w - 2 * h) (2 * h) := by unfold May; omega
  obtain ⟨r', s', hr', hs', e2⟩ := box_ev a b (x + u) (y + v) (z + w - h) u v (w - 2 * h) (2 * h) 0 m2 (by omega) (by omega) (by omega) (by omega) (by omega)
  simp only [Int.sub_zero, Int.add_zero] at hr' hs' e2
  have er' := isRoot_unique (hr' hz') (hs' hz')
  subst er'
  have ht := time_free z w h r r' hh.1 hz.1 hz' hr1 (hr' hz')
  have hb := timeOf_bounds (z + w - h) (w - 2 * h) (2 * h) r' m2.small hr'
  have g1 := gone x u 0 (timeOf (z + w - h) (w - 2 * h) (2 * h) r')
  have g2 := gone y v 0 (timeOf (z + w - h) (w - 2 * h) (2 * h) r')
  rw [ht] at g1 g2
  rw [g1.1, g1.2, g2.1, g2.2] at e2
  refine ⟨e2, timeOf (z + w - h) (w - 2 * h) (2 * h) r', ?_, ?_, hb.1, hb.2⟩
  · obtain ⟨q, hq, eq⟩ := ref_time_ev (z + w - h) (w - 2 * h) (2 * h) m2.small
    rw [timeOf_unique _ _ _ r' q hr' hq]; exact eq
  · obtain ⟨q, hq, eq⟩ := ref_time_ev z w (2 * h) m1.small
    rw [ht, timeOf_unique _ _ _ r q hr hq]; exact eq

theorem ImpactGoes : G.ImpactGoes.Pure := by
  intro n g _ _
  have hg := tmod_bound (IntKind.u64.wrap g) 50 (by decide)
  have hg0 : 0 ≤ Int.tmod (IntKind.u64.wrap g) 50 := by
    refine Int.tmod_nonneg _ ?_
    rw [u64w]; omega
  have hx := tmod_bound n.f2 1073741824 (by decide)
  have hy := tmod_bound n.f3 1073741824 (by decide)
  have hu := tmod_bound n.f5 65536 (by decide)
  have hv := tmod_bound n.f6 65536 (by decide)
  have hw := tmod_bound n.f7 65536 (by decide)
  have hz : 0 ≤ Go.bits .and .i64 n.f4 1073741823 ∧ Go.bits .and .i64 n.f4 1073741823 ≤ 1073741823 := by rw [land30]; omega
  have hG : wrap64 ((wrap64 (1 + (wrap64 (Int.tmod (IntKind.u64.wrap g) 50)))) * 2) = 2 * (1 + Int.tmod (IntKind.u64.wrap g) 50) := by
    rw [w64 (x := Int.tmod (IntKind.u64.wrap g) 50) (by omega) (by omega), w64 (x := 1 + Int.tmod (IntKind.u64.wrap g) 50) (by omega) (by omega), w64 (by omega) (by omega)]; omega
  have hH : wrap64 (Int.tdiv (2 * (1 + Int.tmod (IntKind.u64.wrap g) 50)) 2) = 1 + Int.tmod (IntKind.u64.wrap g) 50 := by
    rw [Int.tdiv_eq_ediv_of_nonneg (by omega), w64 (by omega) (by omega)]; omega
  obtain ⟨b1, b2, b3, b4, ⟨K1, e1⟩, E⟩ := goes n.f0 n.f1 _ _ _ _ _ _ (1 + Int.tmod (IntKind.u64.wrap g) 50) hx hy hz hu hv hw (by omega)
  dsimp only at e1
  revert hG hH
  generalize hX : Int.tmod n.f2 1073741824 = X at *
  generalize hY : Int.tmod n.f3 1073741824 = Y at *
  generalize hZ : Go.bits .and .i64 n.f4 1073741823 = Z at *
  generalize hU : Int.tmod n.f5 65536 = U at *
  generalize hV : Int.tmod n.f6 65536 = V at *
  generalize hW : Int.tmod n.f7 65536 = W at *
  generalize hQ : Int.tmod (IntKind.u64.wrap g) 50 = q at *
  intro hG hH
  have f1 : ∀ k, K1 + 100 ≤ k → apogeelaw18_ImpactGoes.f (k + 1) n.f0 n.f1 n.f2 n.f3 n.f4 n.f5 n.f6 n.f7 g =
      apogeelaw18_ImpactGoes.j0 (k + 1) (2 * (1 + q)) false n.f0 n.f1 X Y Z U V W b1 b2 b3 b4 n.f0 n.f1 (X + U) (Y + V) (Z + W - (1 + q)) U V (W - 2 * (1 + q)) := by
    intro k hk
    unfold apogeelaw18_ImpactGoes.f apogeelaw18_Held.f
    rw [hX, hY, hZ, hU, hV, hW, hQ, hG, hH]
    simp only [Option.bind_some]
    rw [e1 (k + 1) (by omega), awake18 _ (by omega)]
    simp only [Option.bind_some, if_true, Bool.not_true]
    rw [w64 (x := X + U) (by omega) (by omega), w64 (x := Y + V) (by omega) (by omega), w64 (x := Z + W) (by omega) (by omega), w64 (x := Z + W - (1 + q)) (by omega) (by omega), w64 (x := W - 2 * (1 + q)) (by omega) (by omega)]
  by_cases hz' : Z + W - (1 + q) < 0
  · refine ⟨K1 + 100 + 1, ?_⟩
    rw [f1 _ (by omega)]
    simp only [apogeelaw18_ImpactGoes.j0]
    rw [if_neg (by decide), if_pos hz']
  · obtain ⟨⟨K2, e2⟩, t, ⟨K3, e3⟩, ⟨K4, e4⟩, t0, t1⟩ := E (by omega)
    dsimp only at e2 e3 e4
    refine ⟨K1 + K2 + K3 + K4 + 100 + 1, ?_⟩
    rw [f1 _ (by omega)]
    simp only [apogeelaw18_ImpactGoes.j0]
    rw [if_neg (by decide), if_neg hz', e2 _ (by omega)]
    simp only [Option.bind_some, if_true]
    rw [e3 _ (by omega), e4 _ (by omega)]
    simp only [Option.bind_some]
    rw [w64 (x := t + 1) (by omega) (by omega), if_pos rfl]
    simp

end Go.Proofs.Ytlifeghjcgbfnaa.Pure
