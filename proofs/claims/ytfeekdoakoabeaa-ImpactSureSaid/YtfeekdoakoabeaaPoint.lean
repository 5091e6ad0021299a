/- Places, turns, ways and where ways meet: the program's and the reference's answers are those of plane geometry. -/
import Derived.Test.YtfeekdoakoabeaaGx0
import Derived.Test.YtfeekdoakoabeaaGx17
import Derived.Test.YtfeekdoakoabeaaGx6
import Derived.Test.YtfeekdoakoabeaaArith
import Derived.Test.YtfeekdoakoabeaaWideBase
import Derived.Test.YtfeekdoakoabeaaWide128
import Derived.Test.YtfeekdoakoabeaaWideMul
import Derived.Test.YtfeekdoakoabeaaGeoBase
namespace Go.Proofs.Ytfeekdoakoabeaa.Q
open Go.RowKit Go.Proofs.Ytfeekdoakoabeaa.G Go.Proofs.Ytfeekdoakoabeaa.Geo Go.Proofs.YtfeekdoakoabeaaW.PrintWords Go.Proofs.YtfeekdoakoabeaaW.PrintLast Go.Proofs.YtfeekdoakoabeaaW.PrintMore
set_option linter.unusedVariables false
set_option linter.unusedSimpArgs false
theorem point_within (n : Int) : point_within.f n = some (decide (-1099511627776 ≤ n ∧ n ≤ 1099511627776)) := by
  unfold point_within.f
  by_cases h : n ≥ -1099511627776
  · rw [if_pos h]; congr 1; apply decide_eq_decide.mpr; omega
  · rw [if_neg h]; congr 1; symm; apply decide_eq_false; omega
theorem point_right_one (p : Pt) : point_Right.f p.x p.y = some (decide (Ok p)) := by
  unfold point_Right.f Ok
  rw [point_within, point_within]
  simp only [Option.bind_some, decide_eq_true_eq]
  by_cases h : -1099511627776 ≤ p.x ∧ p.x ≤ 1099511627776
  · rw [if_pos h]; congr 1; apply decide_eq_decide.mpr; omega
  · rw [if_neg h]; congr 1; symm; apply decide_eq_false; omega
theorem ref_right_one (p : Pt) : apogeeref10_Right.f p.x p.y = some (decide (Ok p)) := by
  unfold apogeeref10_Right.f Ok
  by_cases h1 : p.x ≥ -1099511627776
  · rw [if_pos h1]
    by_cases h2 : p.x ≤ 1099511627776
    · rw [if_pos h2]
      by_cases h3 : p.y ≥ -1099511627776
      · rw [if_pos h3]; congr 1; apply decide_eq_decide.mpr; omega
      · rw [if_neg h3]; congr 1; symm; apply decide_eq_false; omega
    · rw [if_neg h2]; congr 1; symm; apply decide_eq_false; omega
  · rw [if_neg h1]; congr 1; symm; apply decide_eq_false; omega
end Go.Proofs.Ytfeekdoakoabeaa.Q
