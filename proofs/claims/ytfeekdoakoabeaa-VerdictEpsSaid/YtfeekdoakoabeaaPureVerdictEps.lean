/- VerdictEps, in plain numbers: with more around a nav a sure verdict is the same or not sure any more; no condition. -/
import Derived.Test.YtfeekdoakoabeaaGx16
import Derived.Test.YtfeekdoakoabeaaGx24
import Derived.Test.YtfeekdoakoabeaaGx25
import Derived.Test.YtfeekdoakoabeaaArith
import Derived.Test.YtfeekdoakoabeaaWideBase
import Derived.Test.YtfeekdoakoabeaaWideAdd
import Derived.Test.YtfeekdoakoabeaaWide128
import Derived.Test.YtfeekdoakoabeaaWideMul
import Derived.Test.YtfeekdoakoabeaaWideSub
import Derived.Test.YtfeekdoakoabeaaGeoBase
import Derived.Test.YtfeekdoakoabeaaGeo
import Derived.Test.YtfeekdoakoabeaaPoint
import Derived.Test.YtfeekdoakoabeaaPoly
import Derived.Test.YtfeekdoakoabeaaSide
import Derived.Test.YtfeekdoakoabeaaBoxGeo
import Derived.Test.YtfeekdoakoabeaaBox
import Derived.Test.YtfeekdoakoabeaaBoxIn
import Derived.Test.YtfeekdoakoabeaaRoot
import Derived.Test.YtfeekdoakoabeaaFall
import Derived.Test.YtfeekdoakoabeaaImpact
import Derived.Test.YtfeekdoakoabeaaTimes
import Derived.Test.YtfeekdoakoabeaaBoxBase
import Derived.Test.YtfeekdoakoabeaaImpactBox
import Derived.Test.YtfeekdoakoabeaaVerdict
import Derived.Test.YtfeekdoakoabeaaStVerdictEps
namespace Go.Proofs.Ytfeekdoakoabeaa.Pure
open Go.RowKit Go.Proofs.Ytfeekdoakoabeaa.G Go.Proofs.Ytfeekdoakoabeaa.Q Go.Proofs.Ytfeekdoakoabeaa.Geo Go.Proofs.YtfeekdoakoabeaaW.PrintWords Go.Proofs.YtfeekdoakoabeaaW.PrintLast Go.Proofs.YtfeekdoakoabeaaW.PrintMore
set_option linter.unusedVariables false

theorem ofS_cases (s r : Int) : ofS s r = 1 ∨ ofS s r = 2 ∨ ofS s r = 3 := by
  unfold ofS
  repeat' split
  all_goals simp

theorem VerdictEps : G.VerdictEps.Pure := by
  intro n p e m hn hp he hm
  apply ev_some19
  have no : Ev (fun k => apogeelaw19_VerdictEps.j0 k e m true n.f0 n.f1 n.f2 n.f3 n.f4 n.f5 n.f6 n.f7 p.f0 p.f1 p.f2 p.f3 p.f4) true :=
    Ev.step (f := fun k => (apogeelaw19_awake.f k).bind fun t => some t) (fun k => by simp only [apogeelaw19_VerdictEps.j0]; rw [if_pos trivial]) (Ev.bind awake19 (Ev.now _))
  refine Ev.congr (fun k => rfl) (Ev.bind awake19 (Ev.congr (fun k => if_pos rfl) (ev_ite (fun _ => no) (fun c => Ev.bind (ref13_phase p.f0 (by omega) _ _ _ _) ?_))))
  generalize hq : (rightS p.f0 && (decide (1 ≤ p.f1 ∧ p.f1 ≤ 100) && (decide (1 ≤ p.f2 ∧ p.f2 ≤ 65536) && (decide (1 ≤ p.f3 ∧ p.f3 ≤ 1000000) && decide (0 ≤ p.f4 ∧ p.f4 ≤ 1073741824))))) = q
  cases q with
  | false => exact no
  | true =>
    simp only [Bool.and_eq_true, decide_eq_true_eq] at hq
    obtain ⟨hr, hg, hmost, _, _⟩ := hq
    generalize n.f0 = a; generalize n.f1 = b; generalize n.f2 = x; generalize n.f3 = y; generalize n.f4 = z; generalize n.f5 = u; generalize n.f6 = v; generalize n.f7 = w
    generalize hE : e % 1024 = E
    generalize hM : m % 1024 = M
    refine Ev.step (f := fun k => (verdict_Of.f k a b x y z u v w p.f0 p.f1 p.f2 p.f3 p.f4 E).bind fun t534 => ((verdict_Of.f k a b x y z u v w p.f0 p.f1 p.f2 p.f3 p.f4 (E + M)).bind fun t535 => (if t534 = 4 then (if t535 = 4 then ((apogeeref18_May.f a b x y z u v w p.f1 E).bind fun t536 => (some (!t536))) else (none)) else (if t535 = t534 then (some true) else (if t535 = 4 then (some true) else (some (t535 == 2))))))) (fun k => ?_) ?_
    · simp only [apogeelaw19_VerdictEps.j0]
      rw [if_neg (by decide), land10, land10, hE, hM, w64 (by omega) (by omega)]
    by_cases hin : NavIn x y z u v w p.f1
    · obtain ⟨lo, hi, s1, b1, o1⟩ := of_in_ev a b x y z u v w p.f1 p.f2 p.f3 p.f4 E p.f0 (by omega) hin (by omega) (by omega)
      obtain ⟨lo', hi', s2, b2, o2⟩ := of_in_ev a b x y z u v w p.f1 p.f2 p.f3 p.f4 (E + M) p.f0 (by omega) hin (by omega) (by omega)
      have k := sure_in (most := p.f2) hg.1 (show 0 ≤ E by omega) hr (by omega) (by omega) (by omega) (by omega) (by omega) (by omega) s1 s2 b1 b2
      refine Ev.bind o1 (Ev.bind o2 ?_)
      have cA := ofS_cases (speedS u v w p.f2 E) (relateS (bl x u E lo hi) (bl y v E lo hi) (bh x u E lo hi) (bh y v E lo hi) p.f0)
      have cB := ofS_cases (speedS u v w p.f2 (E + M)) (relateS (bl x u (E + M) lo' hi') (bl y v (E + M) lo' hi') (bh x u (E + M) lo' hi') (bh y v (E + M) lo' hi') p.f0)
      generalize ofS (speedS u v w p.f2 E) (relateS (bl x u E lo hi) (bl y v E lo hi) (bh x u E lo hi) (bh y v E lo hi) p.f0) = A at *
      generalize ofS (speedS u v w p.f2 (E + M)) (relateS (bl x u (E + M) lo' hi') (bl y v (E + M) lo' hi') (bh x u (E + M) lo' hi') (bh y v (E + M) lo' hi') p.f0) = B at *
      rw [if_neg (by omega)]
      by_cases c1 : B = A
      · rw [if_pos c1]; exact Ev.now _
      · rw [if_neg c1, if_neg (by omega)]
        have c2 : B = 2 := by omega
        rw [c2]; exact Ev.now _
    · refine Ev.bind (of_out_ev a b x y z u v w p.f1 p.f2 p.f3 p.f4 E p.f0 hin (by omega)) (Ev.bind (of_out_ev a b x y z u v w p.f1 p.f2 p.f3 p.f4 (E + M) p.f0 hin (by omega)) (Ev.congr (fun k => if_pos rfl) (Ev.congr (fun k => if_pos rfl) ?_)))
      rw [ref_may_in a b x y z u v w p.f1 E (by omega), decide_eq_false hin]; exact Ev.now _

end Go.Proofs.Ytfeekdoakoabeaa.Pure
