-- Written by a program of this session: the plain statement of the law RulesPhases.
import Derived.Test.YtjmibjmlihmglaaGx20
namespace Go.Proofs.Ytjmibjmlihmglaa.G
open Go.RowKit Go.Proofs.YtjmibjmlihmglaaW.PrintWords
namespace RulesPhases
def WF41 (x : S41) : Prop := ((Lit.int .i64 x.f0).wf = true) ∧ ((Lit.int .i64 x.f1).wf = true)
def WF30 (x : S30) : Prop := ((x.f0.length ≤ maxLen ∧ ∀ y ∈ x.f0, WF41 y)) ∧ ((Lit.int .i64 x.f1).wf = true) ∧ ((Lit.int .i64 x.f2).wf = true) ∧ ((Lit.int .i64 x.f3).wf = true) ∧ ((Lit.int .i64 x.f4).wf = true)
def WF24 (x : S24) : Prop := ((x.f0.length ≤ maxLen ∧ ∀ y ∈ x.f0, WF30 y)) ∧ ((Lit.int .i64 x.f1).wf = true) ∧ ((Lit.int .i64 x.f2).wf = true) ∧ ((Lit.int .i64 x.f3).wf = true) ∧ ((Lit.int .i64 x.f4).wf = true) ∧ ((Lit.int .i64 x.f5).wf = true) ∧ ((Lit.int .i64 x.f6).wf = true) ∧ ((Lit.int .i64 x.f7).wf = true) ∧ ((Lit.int .i64 x.f8).wf = true)
def Pure : Prop := ∀ (x0 : S24) (x1 : Int), WF24 x0 → (Lit.int .i64 x1).wf = true → ∃ k, apogeelaw13_RulesPhases.f k x0.f0 x0.f1 x0.f2 x0.f3 x0.f4 x0.f5 x0.f6 x0.f7 x0.f8 x1 = some true
end RulesPhases
end Go.Proofs.Ytjmibjmlihmglaa.G
