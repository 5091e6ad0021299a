-- Written by a program of this session: the plain statement of the law BoxRelates.
import Derived.Test.YtjmibjmlihmglaaGx25
namespace Go.Proofs.Ytjmibjmlihmglaa.G
open Go.RowKit Go.Proofs.YtjmibjmlihmglaaW.PrintWords
namespace BoxRelates
def WF41 (x : S41) : Prop := ((Lit.int .i64 x.f0).wf = true) ∧ ((Lit.int .i64 x.f1).wf = true)
def WF44 (x : S44) : Prop := (WF41 x.f0) ∧ (WF41 x.f1)
def Pure : Prop := ∀ (x0 : S44) (x1 : List (S41)), WF44 x0 → (x1.length ≤ maxLen ∧ ∀ y ∈ x1, WF41 y) → ∃ k, apogeelaw12_BoxRelates.f k x0.f0.f0 x0.f0.f1 x0.f1.f0 x0.f1.f1 x1 = some true
end BoxRelates
end Go.Proofs.Ytjmibjmlihmglaa.G
