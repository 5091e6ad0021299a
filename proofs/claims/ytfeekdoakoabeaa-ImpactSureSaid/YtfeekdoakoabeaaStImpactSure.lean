-- Written by a program of this session: the plain statement of the law ImpactSure.
import Derived.Test.YtfeekdoakoabeaaGx28
namespace Go.Proofs.Ytfeekdoakoabeaa.G
open Go.RowKit Go.Proofs.YtfeekdoakoabeaaW.PrintWords
namespace ImpactSure
def WF23 (x : S23) : Prop := ((Lit.int .i64 x.f0).wf = true) ∧ ((Lit.int .i64 x.f1).wf = true) ∧ ((Lit.int .i64 x.f2).wf = true) ∧ ((Lit.int .i64 x.f3).wf = true) ∧ ((Lit.int .i64 x.f4).wf = true) ∧ ((Lit.int .i64 x.f5).wf = true) ∧ ((Lit.int .i64 x.f6).wf = true) ∧ ((Lit.int .i64 x.f7).wf = true)
def WF24 (x : S24) : Prop := ((Lit.int .i64 x.f0).wf = true) ∧ ((Lit.int .i64 x.f1).wf = true) ∧ ((Lit.int .i64 x.f2).wf = true) ∧ ((Lit.int .i64 x.f3).wf = true) ∧ ((Lit.int .i64 x.f4).wf = true) ∧ ((Lit.int .i64 x.f5).wf = true)
def Pure : Prop := ∀ (x0 : S23) (x1 : Int) (x2 : Int) (x3 : S24), WF23 x0 → (Lit.int .i64 x1).wf = true → (Lit.int .i64 x2).wf = true → WF24 x3 → ∃ k, apogeelaw18_ImpactSure.f k x0.f0 x0.f1 x0.f2 x0.f3 x0.f4 x0.f5 x0.f6 x0.f7 x1 x2 x3.f0 x3.f1 x3.f2 x3.f3 x3.f4 x3.f5 = some true
end ImpactSure
end Go.Proofs.Ytfeekdoakoabeaa.G
