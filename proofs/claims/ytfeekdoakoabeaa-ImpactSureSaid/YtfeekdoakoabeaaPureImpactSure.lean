/- ImpactSure, in plain numbers: whatever is within eps of a nav comes down in its box; no condition. -/
import Derived.Test.YtfeekdoakoabeaaGx17
import Derived.Test.YtfeekdoakoabeaaGx22
import Derived.Test.YtfeekdoakoabeaaGx23
import Derived.Test.YtfeekdoakoabeaaGx26
import Derived.Test.YtfeekdoakoabeaaGx27
import Derived.Test.YtfeekdoakoabeaaGx28
import Derived.Test.YtfeekdoakoabeaaGx7
import Derived.Test.YtfeekdoakoabeaaArith
import Derived.Test.YtfeekdoakoabeaaWideBase
import Derived.Test.YtfeekdoakoabeaaWideAdd
import Derived.Test.YtfeekdoakoabeaaWide128
import Derived.Test.YtfeekdoakoabeaaWideMul
import Derived.Test.YtfeekdoakoabeaaGeoBase
import Derived.Test.YtfeekdoakoabeaaGeo
import Derived.Test.YtfeekdoakoabeaaPoint
import Derived.Test.YtfeekdoakoabeaaBoxBase
import Derived.Test.YtfeekdoakoabeaaRoot
import Derived.Test.YtfeekdoakoabeaaFall
import Derived.Test.YtfeekdoakoabeaaImpact
import Derived.Test.YtfeekdoakoabeaaTimes
import Derived.Test.YtfeekdoakoabeaaImpactBox
import Derived.Test.YtfeekdoakoabeaaStImpactSure
namespace Go.Proofs.Ytfeekdoakoabeaa.Pure
open Go.RowKit Go.Proofs.Ytfeekdoakoabeaa.G Go.Proofs.Ytfeekdoakoabeaa.Q Go.Proofs.Ytfeekdoakoabeaa.Geo Go.Proofs.YtfeekdoakoabeaaW.PrintWords Go.Proofs.YtfeekdoakoabeaaW.PrintLast Go.Proofs.YtfeekdoakoabeaaW.PrintMore
set_option linter.unusedVariables false
set_option linter.unusedSimpArgs false

theorem awake18 : Ev (fun k => apogeelaw18_awake.f k) true := ⟨200, fun k hk => at_rounds (fun k => apogeelaw18_awake.mono k) hk (by decide +kernel)⟩
theorem ref_right12 (a b c d : Int) : apogeeref12_Right.f a b c d = some (rightB a b c d) := by
  have h1 : apogeeref10_Right.f a b = _ := ref_right_one ⟨a, b⟩
  have h2 : apogeeref10_Right.f c d = _ := ref_right_one ⟨c, d⟩
  unfold apogeeref12_Right.f rightB
  rw [h1, h2]
  by_cases c1 : Ok ⟨a, b⟩ <;> by_cases c2 : Ok ⟨c, d⟩ <;> by_cases c3 : a ≤ c <;> simp [c1, c2, c3]
theorem has_in {a b c d x y : Int} (hb : rightB a b c d = true) (hx : a ≤ x ∧ x ≤ c) (hy : b ≤ y ∧ y ≤ d) : apogeeref12_Has.f a b c d x y = some true := by
  have hr : apogeeref10_Right.f x y = _ := ref_right_one ⟨x, y⟩
  have ho : Ok ⟨x, y⟩ := by
    obtain ⟨⟨h1, h2⟩, _⟩ := rightB_iff.1 hb
    unfold Ok at *; simp only at *; omega
  unfold apogeeref12_Has.f
  rw [ref_right12, hb, hr, decide_eq_true ho]
  simp only [Option.bind_some, if_true]
  rw [if_pos (by omega), if_pos (by omega), if_pos (by omega), decide_eq_true (by omega)]

theorem ImpactSure : G.ImpactSure.Pure := by
  intro n g0 e d hn hg0 he hd
  apply ev_some19
  have bx := tmod_bound n.f2 1073741824 (by omega)
  have b_y := tmod_bound n.f3 1073741824 (by omega)
  have bu := tmod_bound n.f5 65536 (by omega)
  have bv := tmod_bound n.f6 65536 (by omega)
  have bw := tmod_bound n.f7 65536 (by omega)
  have bz : 0 ≤ n.f4 % 1073741824 ∧ n.f4 % 1073741824 < 1073741824 := by omega
  have hE : 0 ≤ e % 1024 ∧ e % 1024 < 1024 := by omega
  have d0 := tmod_bound d.f0 (e % 1024 + 1) (by omega)
  have d1 := tmod_bound d.f1 (e % 1024 + 1) (by omega)
  have d2 := tmod_bound d.f2 (e % 1024 + 1) (by omega)
  have d3 := tmod_bound d.f3 (e % 1024 + 1) (by omega)
  have d4 := tmod_bound d.f4 (e % 1024 + 1) (by omega)
  have d5 := tmod_bound d.f5 (e % 1024 + 1) (by omega)
  have hg : 0 ≤ Int.tmod (IntKind.u64.wrap g0) 100 ∧ Int.tmod (IntKind.u64.wrap g0) 100 < 100 := by
    rw [u64w]; exact ⟨Int.tmod_nonneg _ (by omega), Int.tmod_lt_of_pos _ (by omega)⟩
  have held : apogeelaw18_Held.f n.f0 n.f1 n.f2 n.f3 n.f4 n.f5 n.f6 n.f7 = some (n.f0, n.f1, Int.tmod n.f2 1073741824, Int.tmod n.f3 1073741824, n.f4 % 1073741824, Int.tmod n.f5 65536, Int.tmod n.f6 65536, Int.tmod n.f7 65536) := by
    unfold apogeelaw18_Held.f; rw [land30]
  have hgw : wrap64 (1 + wrap64 (Int.tmod (IntKind.u64.wrap g0) 100)) = 1 + Int.tmod (IntKind.u64.wrap g0) 100 := by
    rw [w64 (x := Int.tmod (IntKind.u64.wrap g0) 100) (by omega) (by omega), w64 (by omega) (by omega)]
  generalize hG : 1 + Int.tmod (IntKind.u64.wrap g0) 100 = g at *
  generalize n.f0 = a at *; generalize n.f1 = b at *
  generalize Int.tmod n.f2 1073741824 = x at *; generalize Int.tmod n.f3 1073741824 = y at *; generalize n.f4 % 1073741824 = z at *
  generalize Int.tmod n.f5 65536 = u at *; generalize Int.tmod n.f6 65536 = v at *; generalize Int.tmod n.f7 65536 = w at *
  have off : apogeelaw18_Off.f a b x y z u v w d.f0 d.f1 d.f2 d.f3 d.f4 d.f5 (e % 1024) = some (a, b, x + Int.tmod d.f0 (e % 1024 + 1), y + Int.tmod d.f1 (e % 1024 + 1), z + Int.tmod d.f2 (e % 1024 + 1), u + Int.tmod d.f3 (e % 1024 + 1), v + Int.tmod d.f4 (e % 1024 + 1), w + Int.tmod d.f5 (e % 1024 + 1)) := by
    unfold apogeelaw18_Off.f
    rw [w64 (x := e % 1024 + 1) (by omega) (by omega), if_neg (by omega)]
    rw [w64 (x := x + _) (by omega) (by omega), w64 (x := y + _) (by omega) (by omega), w64 (x := z + _) (by omega) (by omega), w64 (x := u + _) (by omega) (by omega), w64 (x := v + _) (by omega) (by omega), w64 (x := w + _) (by omega) (by omega)]
  generalize hX : x + Int.tmod d.f0 (e % 1024 + 1) = X at *; generalize hY : y + Int.tmod d.f1 (e % 1024 + 1) = Y at *; generalize hZ : z + Int.tmod d.f2 (e % 1024 + 1) = Z at *
  generalize hU : u + Int.tmod d.f3 (e % 1024 + 1) = U at *; generalize hV : v + Int.tmod d.f4 (e % 1024 + 1) = V at *; generalize hW : w + Int.tmod d.f5 (e % 1024 + 1) = W at *
  have hl := land10 e
  generalize hEE : e % 1024 = E at *
  have hin : NavIn x y z u v w g := by unfold NavIn May; omega
  obtain ⟨lo, hi, hS, hB, hbox⟩ := box_in_ev a b x y z u v w g E hin (by omega)
  refine Ev.congr (f := fun k => (impact_Box.f k a b x y z u v w g E).bind fun bt => ((apogeelaw18_awake.f k).bind fun t => (if t = true then (apogeelaw18_ImpactSure.j0 k g E (!bt.2.2.2.2) a b x y z u v w d.f0 d.f1 d.f2 d.f3 d.f4 d.f5 bt.1 bt.2.1 bt.2.2.1 bt.2.2.2.1) else (apogeelaw18_ImpactSure.j0 k g E true a b x y z u v w d.f0 d.f1 d.f2 d.f3 d.f4 d.f5 bt.1 bt.2.1 bt.2.2.1 bt.2.2.2.1)))) (fun k => ?_) (Ev.bind hbox (Ev.bind awake18 (Ev.congr (fun k => if_pos rfl) ?_)))
  · unfold apogeelaw18_ImpactSure.f
    rw [held]; simp only [Option.bind_some]; rw [hgw, hl]
  obtain ⟨hx1, hx2⟩ := (show x - E ≤ X ∧ X ≤ x + E by omega)
  refine Ev.step (f := fun k => if Z < 0 then (some true) else ((apogeeref17_Time.f k Z W g).bind fun t645 => ((apogeeref17_Above.f Z W g t645).bind fun t646 => (if t646 < 0 then (apogeelaw18_ImpactSure.j1 k t645 true (bl x u E lo hi) (bl y v E lo hi) (bh x u E lo hi) (bh y v E lo hi) a b X Y Z U V W) else ((apogeeref17_Above.f Z W g (wrap64 (t645 + 2))).bind fun t647 => (apogeelaw18_ImpactSure.j1 k t645 (decide (t647 ≥ 0)) (bl x u E lo hi) (bl y v E lo hi) (bh x u E lo hi) (bh y v E lo hi) a b X Y Z U V W)))))) (fun k => ?_) (ev_itx (fun _ => Ev.now _) (fun hz => ?_))
  · simp only [apogeelaw18_ImpactSure.j0]
    rw [if_neg (by decide), off]; rfl
  have hm : May Z W g := by unfold May; omega
  obtain ⟨q, hq, hT⟩ := ref_time_ev Z W g hm.small
  have tb := timeOf_bounds Z W g q hm.small hq
  have hmax : timeOf Z W g q = (W + q) / g := by unfold timeOf; rw [if_neg hz]
  have ta := fun t ht => time_above Z W g q (by omega) (by omega) (hq (by omega)) t ht
  obtain ⟨r, s, hr, hs, rfl, rfl⟩ := hS
  have l0 := time_nonneg (z - E) (w - E) g r (by omega) hr
  have l1 := time_mono (z - E) (w - E) Z W g r q (by omega) (by omega) (by omega) hr hq
  have l2 := time_mono Z W (z + E) (w + E) g q s (by omega) (by omega) (by omega) hq hs
  generalize timeOf (z - E) (w - E) g r = lo at *
  generalize hh : timeOf (z + E) (w + E) g s + 2 = hi at *
  refine Ev.bind hT ?_
  rw [hmax] at tb l1 l2 ⊢
  generalize (W + q) / g = t at *
  have a0 := (ta t tb.1).1 (Int.le_refl _)
  have a2 : ¬ 0 ≤ 2 * Z + 2 * W * (t + 2) - g * (t + 2) * (t + 2) := fun h => by have := (ta (t + 2) (by omega)).2 h; omega
  have hmm := hm
  unfold May at hmm
  refine Ev.congr (f := fun k => apogeelaw18_ImpactSure.j1 k t false (bl x u E lo hi) (bl y v E lo hi) (bh x u E lo hi) (bh y v E lo hi) a b X Y Z U V W) (fun k => ?_) ?_
  · rw [ref_above Z W g t hm (by omega)]
    simp only [Option.bind_some]
    rw [if_neg (by unfold above; omega), w64 (x := t + 2) (by omega) (by omega), ref_above Z W g (t + 2) hm (by omega)]
    simp only [Option.bind_some]
    rw [decide_eq_false (by unfold above; omega)]
  have way : ∀ t', lo ≤ t' → t' ≤ hi → t' ≤ 1310722 → ∃ px py, apogeeref18_Way.f a b X Y Z U V W t' = some (px, py) ∧ apogeeref12_Has.f (bl x u E lo hi) (bl y v E lo hi) (bh x u E lo hi) (bh y v E lo hi) px py = some true := by
    intro t' h1 h2 h3
    have v1 := vt_bound U t' (by omega) (by omega)
    have v2 := vt_bound V t' (by omega) (by omega)
    refine ⟨X + U * t', Y + V * t', ?_, has_in hB (way_side x u E lo hi X U t' (by omega) (by omega) l0 h1 h2) (way_side y v E lo hi Y V t' (by omega) (by omega) l0 h1 h2)⟩
    unfold apogeeref18_Way.f
    rw [w64 (x := U * t') (by omega) (by omega), w64 (x := V * t') (by omega) (by omega), w64 (x := X + _) (by omega) (by omega), w64 (x := Y + _) (by omega) (by omega)]
  obtain ⟨p0, q0, w0, h0⟩ := way t (by omega) (by omega) (by omega)
  obtain ⟨p1, q1, w1, h1⟩ := way (t + 1) (by omega) (by omega) (by omega)
  obtain ⟨p2, q2, w2, h2⟩ := way (t + 2) (by omega) (by omega) (by omega)
  refine Ev.step (f := fun _ => some true) (fun k => ?_) (Ev.now _)
  simp only [apogeelaw18_ImpactSure.j1]
  rw [if_neg (by decide), w0]
  simp only [Option.bind_some]
  rw [h0]
  simp only [Option.bind_some, if_true]
  rw [w64 (x := t + 1) (by omega) (by omega), w1]
  simp only [Option.bind_some]
  rw [h1]
  simp only [Option.bind_some, if_true]
  rw [w64 (x := t + 2) (by omega) (by omega), w2]
  simp only [Option.bind_some]
  rw [h2]; rfl

end Go.Proofs.Ytfeekdoakoabeaa.Pure
