-- Written by a program of this session: the plain statement of the law BoxStays.
import Derived.Test.YtjmibjmlihmglaaGx26
namespace Go.Proofs.Ytjmibjmlihmglaa.G
open Go.RowKit Go.Proofs.YtjmibjmlihmglaaW.PrintWords
namespace BoxStays
def WF41 (x : S41) : Prop := ((Lit.int .i64 x.f0).wf = true) ∧ ((Lit.int .i64 x.f1).wf = true)
def WF44 (x : S44) : Prop := (WF41 x.f0) ∧ (WF41 x.f1)
def Pure : Prop := ∀ (x0 : S44) (x1 : List (S41)) (x2 : S41) (x3 : S41), WF44 x0 → (x1.length ≤ maxLen ∧ ∀ y ∈ x1, WF41 y) → WF41 x2 → WF41 x3 → ∃ k, apogeelaw12_BoxStays.f k x0.f0.f0 x0.f0.f1 x0.f1.f0 x0.f1.f1 x1 x2.f0 x2.f1 x3.f0 x3.f1 = some true
end BoxStays
end Go.Proofs.Ytjmibjmlihmglaa.G
