-- Written by a program of this session: the plain statement of the law PointTells.
import Derived.Test.YtlifeghjcgbfnaaGx16
namespace Go.Proofs.Ytlifeghjcgbfnaa.G
open Go.RowKit Go.Proofs.YtlifeghjcgbfnaaW.PrintWords
namespace PointTells
def WF31 (x : S31) : Prop := ((Lit.int .i64 x.f0).wf = true) ∧ ((Lit.int .i64 x.f1).wf = true)
def Pure : Prop := ∀ (x0 : S31) (x1 : S31) (x2 : S31) (x3 : S31), WF31 x0 → WF31 x1 → WF31 x2 → WF31 x3 → ∃ k, apogeelaw10_PointTells.f k x0.f0 x0.f1 x1.f0 x1.f1 x2.f0 x2.f1 x3.f0 x3.f1 = some true
end PointTells
end Go.Proofs.Ytlifeghjcgbfnaa.G
