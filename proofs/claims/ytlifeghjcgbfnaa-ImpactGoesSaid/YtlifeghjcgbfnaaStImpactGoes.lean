-- Written by a program of this session: the plain statement of the law ImpactGoes.
import Derived.Test.YtlifeghjcgbfnaaGx19
namespace Go.Proofs.Ytlifeghjcgbfnaa.G
open Go.RowKit Go.Proofs.YtlifeghjcgbfnaaW.PrintWords
namespace ImpactGoes
def WF37 (x : S37) : Prop := ((Lit.int .i64 x.f0).wf = true) ∧ ((Lit.int .i64 x.f1).wf = true) ∧ ((Lit.int .i64 x.f2).wf = true) ∧ ((Lit.int .i64 x.f3).wf = true) ∧ ((Lit.int .i64 x.f4).wf = true) ∧ ((Lit.int .i64 x.f5).wf = true) ∧ ((Lit.int .i64 x.f6).wf = true) ∧ ((Lit.int .i64 x.f7).wf = true)
def Pure : Prop := ∀ (x0 : S37) (x1 : Int), WF37 x0 → (Lit.int .i64 x1).wf = true → ∃ k, apogeelaw18_ImpactGoes.f k x0.f0 x0.f1 x0.f2 x0.f3 x0.f4 x0.f5 x0.f6 x0.f7 x1 = some true
end ImpactGoes
end Go.Proofs.Ytlifeghjcgbfnaa.G
