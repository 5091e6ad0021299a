-- Written by a program of this session: the plain statement of the law VerdictEps.
import Derived.Test.YtfeekdoakoabeaaGx25
namespace Go.Proofs.Ytfeekdoakoabeaa.G
open Go.RowKit Go.Proofs.YtfeekdoakoabeaaW.PrintWords
namespace VerdictEps
def WF23 (x : S23) : Prop := ((Lit.int .i64 x.f0).wf = true) ∧ ((Lit.int .i64 x.f1).wf = true) ∧ ((Lit.int .i64 x.f2).wf = true) ∧ ((Lit.int .i64 x.f3).wf = true) ∧ ((Lit.int .i64 x.f4).wf = true) ∧ ((Lit.int .i64 x.f5).wf = true) ∧ ((Lit.int .i64 x.f6).wf = true) ∧ ((Lit.int .i64 x.f7).wf = true)
def WF28 (x : S28) : Prop := ((Lit.int .i64 x.f0).wf = true) ∧ ((Lit.int .i64 x.f1).wf = true)
def WF42 (x : S42) : Prop := ((x.f0.length ≤ maxLen ∧ ∀ y ∈ x.f0, WF28 y)) ∧ ((Lit.int .i64 x.f1).wf = true) ∧ ((Lit.int .i64 x.f2).wf = true) ∧ ((Lit.int .i64 x.f3).wf = true) ∧ ((Lit.int .i64 x.f4).wf = true)
def Pure : Prop := ∀ (x0 : S23) (x1 : S42) (x2 : Int) (x3 : Int), WF23 x0 → WF42 x1 → (Lit.int .i64 x2).wf = true → (Lit.int .i64 x3).wf = true → ∃ k, apogeelaw19_VerdictEps.f k x0.f0 x0.f1 x0.f2 x0.f3 x0.f4 x0.f5 x0.f6 x0.f7 x1.f0 x1.f1 x1.f2 x1.f3 x1.f4 x2 x3 = some true
end VerdictEps
end Go.Proofs.Ytfeekdoakoabeaa.G
