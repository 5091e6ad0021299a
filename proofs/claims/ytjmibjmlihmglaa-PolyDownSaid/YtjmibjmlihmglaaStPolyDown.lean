-- Written by a program of this session: the plain statement of the law PolyDown.
import Derived.Test.YtjmibjmlihmglaaGx28
namespace Go.Proofs.Ytjmibjmlihmglaa.G
open Go.RowKit Go.Proofs.YtjmibjmlihmglaaW.PrintWords
namespace PolyDown
def WF41 (x : S41) : Prop := ((Lit.int .i64 x.f0).wf = true) ∧ ((Lit.int .i64 x.f1).wf = true)
def Pure : Prop := ∀ (x0 : List (S41)), (x0.length ≤ maxLen ∧ ∀ y ∈ x0, WF41 y) → ∃ k, apogeelaw11_PolyDown.f k x0 = some true
end PolyDown
end Go.Proofs.Ytjmibjmlihmglaa.G
