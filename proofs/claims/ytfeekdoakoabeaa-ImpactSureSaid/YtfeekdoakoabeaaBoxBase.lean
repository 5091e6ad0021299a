/- A box that may be. -/
import Derived.Test.YtfeekdoakoabeaaArith
import Derived.Test.YtfeekdoakoabeaaWideBase
import Derived.Test.YtfeekdoakoabeaaWide128
import Derived.Test.YtfeekdoakoabeaaWideMul
import Derived.Test.YtfeekdoakoabeaaGeoBase
import Derived.Test.YtfeekdoakoabeaaGeo
import Derived.Test.YtfeekdoakoabeaaPoint
namespace Go.Proofs.Ytfeekdoakoabeaa.Q
open Go.RowKit Go.Proofs.Ytfeekdoakoabeaa.G Go.Proofs.Ytfeekdoakoabeaa.Geo Go.Proofs.YtfeekdoakoabeaaW.PrintWords Go.Proofs.YtfeekdoakoabeaaW.PrintLast Go.Proofs.YtfeekdoakoabeaaW.PrintMore
set_option linter.unusedVariables false
set_option linter.unusedSimpArgs false
def rightB (a b c d : Int) : Bool := decide ((Ok ⟨a, b⟩ ∧ Ok ⟨c, d⟩) ∧ a ≤ c ∧ b ≤ d)
theorem rightB_iff {a b c d : Int} : rightB a b c d = true ↔ (Ok ⟨a, b⟩ ∧ Ok ⟨c, d⟩) ∧ a ≤ c ∧ b ≤ d := decide_eq_true_iff
end Go.Proofs.Ytfeekdoakoabeaa.Q
