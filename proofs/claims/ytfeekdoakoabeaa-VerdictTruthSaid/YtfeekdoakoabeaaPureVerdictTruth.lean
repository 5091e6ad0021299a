/- VerdictTruth, in plain numbers: a source near the truth says for sure only what the truth doesn't speak against; no condition. -/
import Derived.Test.YtfeekdoakoabeaaGx16
import Derived.Test.YtfeekdoakoabeaaGx22
import Derived.Test.YtfeekdoakoabeaaGx23
import Derived.Test.YtfeekdoakoabeaaGx24
import Derived.Test.YtfeekdoakoabeaaArith
import Derived.Test.YtfeekdoakoabeaaWideBase
import Derived.Test.YtfeekdoakoabeaaWideAdd
import Derived.Test.YtfeekdoakoabeaaWide128
import Derived.Test.YtfeekdoakoabeaaWideMul
import Derived.Test.YtfeekdoakoabeaaWideSub
import Derived.Test.YtfeekdoakoabeaaGeoBase
import Derived.Test.YtfeekdoakoabeaaGeo
import Derived.Test.YtfeekdoakoabeaaPoint
import Derived.Test.YtfeekdoakoabeaaPoly
import Derived.Test.YtfeekdoakoabeaaSide
import Derived.Test.YtfeekdoakoabeaaBoxGeo
import Derived.Test.YtfeekdoakoabeaaBox
import Derived.Test.YtfeekdoakoabeaaBoxIn
import Derived.Test.YtfeekdoakoabeaaRoot
import Derived.Test.YtfeekdoakoabeaaFall
import Derived.Test.YtfeekdoakoabeaaImpact
import Derived.Test.YtfeekdoakoabeaaTimes
import Derived.Test.YtfeekdoakoabeaaBoxBase
import Derived.Test.YtfeekdoakoabeaaImpactBox
import Derived.Test.YtfeekdoakoabeaaVerdict
import Derived.Test.YtfeekdoakoabeaaStVerdictTruth
namespace Go.Proofs.Ytfeekdoakoabeaa.Pure
open Go.RowKit Go.Proofs.Ytfeekdoakoabeaa.G Go.Proofs.Ytfeekdoakoabeaa.Q Go.Proofs.Ytfeekdoakoabeaa.Geo Go.Proofs.YtfeekdoakoabeaaW.PrintWords Go.Proofs.YtfeekdoakoabeaaW.PrintLast Go.Proofs.YtfeekdoakoabeaaW.PrintMore
set_option linter.unusedVariables false

theorem VerdictTruth : G.VerdictTruth.Pure := by
  intro n p e d hn hp he hd
  apply ev_some19
  have no : Ev (fun k => apogeelaw19_VerdictTruth.j0 k e true n.f0 n.f1 n.f2 n.f3 n.f4 n.f5 n.f6 n.f7 p.f0 p.f1 p.f2 p.f3 p.f4 d.f0 d.f1 d.f2 d.f3 d.f4 d.f5) true :=
    Ev.step (f := fun k => (apogeelaw19_awake.f k).bind fun t => some t) (fun k => by simp only [apogeelaw19_VerdictTruth.j0]; rw [if_pos trivial]) (Ev.bind awake19 (Ev.now _))
  refine Ev.congr (fun k => rfl) (Ev.bind awake19 (Ev.congr (fun k => if_pos rfl) (ev_ite (fun _ => no) (fun c => Ev.bind (ref13_phase p.f0 (by omega) _ _ _ _) ?_))))
  generalize hq : (rightS p.f0 && (decide (1 ≤ p.f1 ∧ p.f1 ≤ 100) && (decide (1 ≤ p.f2 ∧ p.f2 ≤ 65536) && (decide (1 ≤ p.f3 ∧ p.f3 ≤ 1000000) && decide (0 ≤ p.f4 ∧ p.f4 ≤ 1073741824))))) = q
  cases q with
  | false => exact no
  | true =>
    simp only [Bool.and_eq_true, decide_eq_true_eq] at hq
    obtain ⟨hr, hg, hmost, _, _⟩ := hq
    have bx := tmod_bound n.f2 1073741824 (by omega)
    have b_y := tmod_bound n.f3 1073741824 (by omega)
    have bu := tmod_bound n.f5 65536 (by omega)
    have bv := tmod_bound n.f6 65536 (by omega)
    have bw := tmod_bound n.f7 65536 (by omega)
    have bz : 0 ≤ n.f4 % 1073741824 ∧ n.f4 % 1073741824 < 1073741824 := by omega
    have hE : 0 ≤ e % 1024 ∧ e % 1024 < 1024 := by omega
    have d0 := tmod_bound d.f0 (e % 1024 + 1) (by omega)
    have d1 := tmod_bound d.f1 (e % 1024 + 1) (by omega)
    have d2 := tmod_bound d.f2 (e % 1024 + 1) (by omega)
    have d3 := tmod_bound d.f3 (e % 1024 + 1) (by omega)
    have d4 := tmod_bound d.f4 (e % 1024 + 1) (by omega)
    have d5 := tmod_bound d.f5 (e % 1024 + 1) (by omega)
    have held : apogeelaw18_Held.f n.f0 n.f1 n.f2 n.f3 n.f4 n.f5 n.f6 n.f7 = some (n.f0, n.f1, Int.tmod n.f2 1073741824, Int.tmod n.f3 1073741824, n.f4 % 1073741824, Int.tmod n.f5 65536, Int.tmod n.f6 65536, Int.tmod n.f7 65536) := by
      unfold apogeelaw18_Held.f; rw [land30]
    generalize n.f0 = a at *; generalize n.f1 = b at *
    generalize Int.tmod n.f2 1073741824 = x at *; generalize Int.tmod n.f3 1073741824 = y at *; generalize n.f4 % 1073741824 = z at *
    generalize Int.tmod n.f5 65536 = u at *; generalize Int.tmod n.f6 65536 = v at *; generalize Int.tmod n.f7 65536 = w at *
    have off : apogeelaw18_Off.f a b x y z u v w d.f0 d.f1 d.f2 d.f3 d.f4 d.f5 (e % 1024) = some (a, b, x + Int.tmod d.f0 (e % 1024 + 1), y + Int.tmod d.f1 (e % 1024 + 1), z + Int.tmod d.f2 (e % 1024 + 1), u + Int.tmod d.f3 (e % 1024 + 1), v + Int.tmod d.f4 (e % 1024 + 1), w + Int.tmod d.f5 (e % 1024 + 1)) := by
      unfold apogeelaw18_Off.f
      rw [w64 (x := e % 1024 + 1) (by omega) (by omega), if_neg (by omega)]
      rw [w64 (x := x + _) (by omega) (by omega), w64 (x := y + _) (by omega) (by omega), w64 (x := z + _) (by omega) (by omega), w64 (x := u + _) (by omega) (by omega), w64 (x := v + _) (by omega) (by omega), w64 (x := w + _) (by omega) (by omega)]
    generalize hX : x + Int.tmod d.f0 (e % 1024 + 1) = X at *; generalize hY : y + Int.tmod d.f1 (e % 1024 + 1) = Y at *; generalize hZ : z + Int.tmod d.f2 (e % 1024 + 1) = Z at *
    generalize hU : u + Int.tmod d.f3 (e % 1024 + 1) = U at *; generalize hV : v + Int.tmod d.f4 (e % 1024 + 1) = V at *; generalize hW : w + Int.tmod d.f5 (e % 1024 + 1) = W at *
    generalize hEE : e % 1024 = E at *
    refine Ev.step (f := fun k => (verdict_Of.f k a b x y z u v w p.f0 p.f1 p.f2 p.f3 p.f4 0).bind fun t533 => ((verdict_Of.f k a b X Y Z U V W p.f0 p.f1 p.f2 p.f3 p.f4 E).bind fun t534 => apogeelaw19_VerdictTruth.j1 k t533 t534)) (fun k => ?_) ?_
    · simp only [apogeelaw19_VerdictTruth.j0]
      rw [if_neg (by decide), held]
      simp only [Option.bind_some]
      rw [land10, hEE, off]
      rfl
    have hin : NavIn x y z u v w p.f1 := by unfold NavIn May; omega
    have hin' : NavIn X Y Z U V W p.f1 := by unfold NavIn May; omega
    obtain ⟨lo, hi, s1, b1, o1⟩ := of_in_ev a b x y z u v w p.f1 p.f2 p.f3 p.f4 0 p.f0 (by omega) hin (by omega) (by omega)
    obtain ⟨lo', hi', s2, b2, o2⟩ := of_in_ev a b X Y Z U V W p.f1 p.f2 p.f3 p.f4 E p.f0 (by omega) hin' (by omega) (by omega)
    have k := sure_in (most := p.f2) hg.1 (show (0 : Int) ≤ 0 by omega) hr (by omega) (by omega) (by omega) (by omega) (by omega) (by omega) s1 s2 b1 b2
    refine Ev.bind o1 (Ev.bind o2 ?_)
    generalize ofS (speedS u v w p.f2 0) (relateS (bl x u 0 lo hi) (bl y v 0 lo hi) (bh x u 0 lo hi) (bh y v 0 lo hi) p.f0) = A at *
    generalize ofS (speedS U V W p.f2 E) (relateS (bl X U E lo' hi') (bl Y V E lo' hi') (bh X U E lo' hi') (bh Y V E lo' hi') p.f0) = B at *
    refine Ev.step (f := fun k => if A = 1 then (if B = 3 then (none) else (if A = 3 then (some (!(B == 1))) else (some (!false)))) else (if A = 3 then (some (!(B == 1))) else (some (!false)))) (fun k => by simp only [apogeelaw19_VerdictTruth.j1]) ?_
    by_cases c1 : A = 1
    · rw [if_pos c1, if_neg (by omega), if_neg (by omega)]; exact Ev.now _
    · rw [if_neg c1]
      by_cases c3 : A = 3
      · rw [if_pos c3, show (B == 1) = false from beq_eq_false_iff_ne.mpr (by omega)]; exact Ev.now _
      · rw [if_neg c3]; exact Ev.now _

end Go.Proofs.Ytfeekdoakoabeaa.Pure
