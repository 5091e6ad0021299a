/- A box that may be. -/
import Derived.Test.YtfeekdoakoabeaaGx6
import Derived.Test.YtfeekdoakoabeaaArith
import Derived.Test.YtfeekdoakoabeaaWideBase
import Derived.Test.YtfeekdoakoabeaaWide128
import Derived.Test.YtfeekdoakoabeaaWideMul
import Derived.Test.YtfeekdoakoabeaaGeoBase
import Derived.Test.YtfeekdoakoabeaaGeo
import Derived.Test.YtfeekdoakoabeaaPoint
namespace Go.Proofs.Ytfeekdoakoabeaa.Q
open Go.RowKit Go.Proofs.Ytfeekdoakoabeaa.G Go.Proofs.Ytfeekdoakoabeaa.Geo Go.Proofs.YtfeekdoakoabeaaW.PrintWords Go.Proofs.YtfeekdoakoabeaaW.PrintLast Go.Proofs.YtfeekdoakoabeaaW.PrintMore
set_option linter.unusedVariables false
set_option linter.unusedSimpArgs false
def rightB (a b c d : Int) : Bool := decide ((Ok ⟨a, b⟩ ∧ Ok ⟨c, d⟩) ∧ a ≤ c ∧ b ≤ d)
theorem rightB_iff {a b c d : Int} : rightB a b c d = true ↔ (Ok ⟨a, b⟩ ∧ Ok ⟨c, d⟩) ∧ a ≤ c ∧ b ≤ d := decide_eq_true_iff
theorem box_right (a b c d : Int) : box_Right.f a b c d = some (rightB a b c d) := by
  have h1 : point_Right.f a b = _ := point_right_one ⟨a, b⟩
  have h2 : point_Right.f c d = _ := point_right_one ⟨c, d⟩
  unfold box_Right.f rightB
  rw [h1, h2]
  by_cases c1 : Ok ⟨a, b⟩ <;> by_cases c2 : Ok ⟨c, d⟩ <;> by_cases c3 : a ≤ c <;> simp [c1, c2, c3]
end Go.Proofs.Ytfeekdoakoabeaa.Q
