/- Wide numbers of 128 bits: the reference's sums and products, bit by bit, and the program's products, are the plain ones modulo 2^128. -/
import Derived.Test.YtfeekdoakoabeaaArith
import Derived.Test.YtfeekdoakoabeaaWideBase
namespace Go.Proofs.Ytfeekdoakoabeaa.Q
open Go.RowKit Go.Proofs.Ytfeekdoakoabeaa.G Go.Proofs.YtfeekdoakoabeaaW.PrintWords Go.Proofs.YtfeekdoakoabeaaW.PrintLast Go.Proofs.YtfeekdoakoabeaaW.PrintMore
set_option linter.unusedVariables false
def bit (x : Int) (i : Nat) : Int := x / 2 ^ i % 2
end Go.Proofs.Ytfeekdoakoabeaa.Q
