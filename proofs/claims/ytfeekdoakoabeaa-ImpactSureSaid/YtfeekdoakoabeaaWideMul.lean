/- Wide products and comparisons: the reference's and the program's are the plain ones. -/
import Derived.Test.YtfeekdoakoabeaaGx0
import Derived.Test.YtfeekdoakoabeaaArith
import Derived.Test.YtfeekdoakoabeaaWideBase
import Derived.Test.YtfeekdoakoabeaaWide128
namespace Go.Proofs.Ytfeekdoakoabeaa.Q
open Go.RowKit Go.Proofs.Ytfeekdoakoabeaa.G Go.Proofs.YtfeekdoakoabeaaW.PrintWords Go.Proofs.YtfeekdoakoabeaaW.PrintLast Go.Proofs.YtfeekdoakoabeaaW.PrintMore
set_option linter.unusedVariables false
set_option linter.unusedSimpArgs false
end Go.Proofs.Ytfeekdoakoabeaa.Q
