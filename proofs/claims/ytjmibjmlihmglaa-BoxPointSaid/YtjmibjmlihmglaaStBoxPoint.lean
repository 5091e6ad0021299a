-- Written by a program of this session: the plain statement of the law BoxPoint.
import Derived.Test.YtjmibjmlihmglaaGx27
namespace Go.Proofs.Ytjmibjmlihmglaa.G
open Go.RowKit Go.Proofs.YtjmibjmlihmglaaW.PrintWords
namespace BoxPoint
def WF41 (x : S41) : Prop := ((Lit.int .i64 x.f0).wf = true) ∧ ((Lit.int .i64 x.f1).wf = true)
def Pure : Prop := ∀ (x0 : List (S41)) (x1 : S41), (x0.length ≤ maxLen ∧ ∀ y ∈ x0, WF41 y) → WF41 x1 → ∃ k, apogeelaw12_BoxPoint.f k x0 x1.f0 x1.f1 = some true
end BoxPoint
end Go.Proofs.Ytjmibjmlihmglaa.G
