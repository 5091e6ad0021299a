-- Written by a program of this session: the plain statement of the law PolyWays.
import Derived.Test.YtjmibjmlihmglaaGx27
namespace Go.Proofs.Ytjmibjmlihmglaa.G
open Go.RowKit Go.Proofs.YtjmibjmlihmglaaW.PrintWords
namespace PolyWays
def WF41 (x : S41) : Prop := ((Lit.int .i64 x.f0).wf = true) ∧ ((Lit.int .i64 x.f1).wf = true)
def Pure : Prop := ∀ (x0 : List (S41)) (x1 : S41) (x2 : S41), (x0.length ≤ maxLen ∧ ∀ y ∈ x0, WF41 y) → WF41 x1 → WF41 x2 → ∃ k, apogeelaw11_PolyWays.f k x0 x1.f0 x1.f1 x2.f0 x2.f1 = some true
end PolyWays
end Go.Proofs.Ytjmibjmlihmglaa.G
