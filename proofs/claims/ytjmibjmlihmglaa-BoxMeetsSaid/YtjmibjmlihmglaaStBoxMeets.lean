-- Written by a program of this session: the plain statement of the law BoxMeets.
import Derived.Test.YtjmibjmlihmglaaGx21
namespace Go.Proofs.Ytjmibjmlihmglaa.G
open Go.RowKit Go.Proofs.YtjmibjmlihmglaaW.PrintWords
namespace BoxMeets
def WF41 (x : S41) : Prop := ((Lit.int .i64 x.f0).wf = true) ∧ ((Lit.int .i64 x.f1).wf = true)
def WF44 (x : S44) : Prop := (WF41 x.f0) ∧ (WF41 x.f1)
def Pure : Prop := ∀ (x0 : S44) (x1 : S41) (x2 : S41), WF44 x0 → WF41 x1 → WF41 x2 → ∃ k, apogeelaw12_BoxMeets.f k x0.f0.f0 x0.f0.f1 x0.f1.f0 x0.f1.f1 x1.f0 x1.f1 x2.f0 x2.f1 = some true
end BoxMeets
end Go.Proofs.Ytjmibjmlihmglaa.G
