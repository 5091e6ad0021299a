-- Written by a program of this session: the row of the law RulesPhases, out of its plain statement's proof and the walks.
import Derived.Test.YtjmibjmlihmglaaRows
import Derived.Test.YtjmibjmlihmglaaGx20
import Derived.Test.YtjmibjmlihmglaaStRulesPhases
import Derived.Test.YtjmibjmlihmglaaPureRulesPhases
import Derived.Test.YtjmibjmlihmglaaOpens
import Derived.WalkKit
import Derived.ProofKit
import Derived.OpenShut
import Derived.ShutString
import Derived.ChangeOld
import Derived.Below
import Derived.SizedLaws
namespace Go.Proofs.Ytjmibjmlihmglaa.rulesPhases
open Go.ChangeShapes Go.WideShapes Go.ChangeAt Go.RowKit Go.Proofs.Ytjmibjmlihmglaa.G Go.Proofs.Ytjmibjmlihmglaa.G.RulesPhases Go.Proofs.YtjmibjmlihmglaaW.PrintWords
open Go.ChangeMaps (open_string shut_string)
set_option linter.unusedVariables false
theorem own : ownKnob Try.prog.godebug = none := by kernel_rfl
theorem laidOut : laidOutB Try.prog = true := by kernel_rfl
theorem opens41 : Q.Opens Try.prog 41 k41 WF41 :=
  Q.opens_iso (fun x : S41 => (x.f0, x.f1)) (fun p => ⟨p.1, p.2⟩) (fun _ => rfl) (Q.opens_struct Try.underlying41 (by kernel_rfl) (Q.opensF_cons (Q.opens_int (by kernel_rfl)) rfl (by kernel_rfl) (Q.opensF_one (Q.opens_int (by kernel_rfl)) rfl (by kernel_rfl))))
theorem opens30 : Q.Opens Try.prog 30 k30 WF30 :=
  Q.opens_iso (fun x : S30 => (x.f0, x.f1, x.f2, x.f3, x.f4)) (fun p => ⟨p.1, p.2.1, p.2.2.1, p.2.2.2.1, p.2.2.2.2⟩) (fun _ => rfl) (Q.opens_struct Try.underlying30 (by kernel_rfl) (Q.opensF_cons (Q.opens_slice (by kernel_rfl) (by kernel_rfl) opens41) rfl (by kernel_rfl) (Q.opensF_cons (Q.opens_int (by kernel_rfl)) rfl (by kernel_rfl) (Q.opensF_cons (Q.opens_int (by kernel_rfl)) rfl (by kernel_rfl) (Q.opensF_cons (Q.opens_int (by kernel_rfl)) rfl (by kernel_rfl) (Q.opensF_one (Q.opens_int (by kernel_rfl)) rfl (by kernel_rfl)))))))
theorem opens24 : Q.Opens Try.prog 24 k24 WF24 :=
  Q.opens_iso (fun x : S24 => (x.f0, x.f1, x.f2, x.f3, x.f4, x.f5, x.f6, x.f7, x.f8)) (fun p => ⟨p.1, p.2.1, p.2.2.1, p.2.2.2.1, p.2.2.2.2.1, p.2.2.2.2.2.1, p.2.2.2.2.2.2.1, p.2.2.2.2.2.2.2.1, p.2.2.2.2.2.2.2.2⟩) (fun _ => rfl) (Q.opens_struct Try.underlying24 (by kernel_rfl) (Q.opensF_cons (Q.opens_slice (by kernel_rfl) (by kernel_rfl) opens30) rfl (by kernel_rfl) (Q.opensF_cons (Q.opens_int (by kernel_rfl)) rfl (by kernel_rfl) (Q.opensF_cons (Q.opens_int (by kernel_rfl)) rfl (by kernel_rfl) (Q.opensF_cons (Q.opens_int (by kernel_rfl)) rfl (by kernel_rfl) (Q.opensF_cons (Q.opens_int (by kernel_rfl)) rfl (by kernel_rfl) (Q.opensF_cons (Q.opens_int (by kernel_rfl)) rfl (by kernel_rfl) (Q.opensF_cons (Q.opens_int (by kernel_rfl)) rfl (by kernel_rfl) (Q.opensF_cons (Q.opens_int (by kernel_rfl)) rfl (by kernel_rfl) (Q.opensF_one (Q.opens_int (by kernel_rfl)) rfl (by kernel_rfl)))))))))))
set_option maxRecDepth 100000 in
theorem lifted (os : Os) (started : os.Started) (H : Type) (enc : TypeId × Value → H) :
    ReturnsInHanded {} Try.checked os 6 .any (Rows.rulesPhasesSpec.pre6 enc Try.prog Try.f6 Rows.rulesPhasesRow.domain false) (Rows.rulesPhasesSpec.post enc Try.prog Try.f6 false true false false) := by
  refine returnsInHanded_of_change_sized (C := Try.checked) own started (by kernel_rfl) Try.func6
    (ChangeSpec.witness6 (enc := enc) (C := Try.checked) false ⟨#[], #[.agg #[.slice none 0 0, .int .i64 0, .int .i64 0, .int .i64 0, .int .i64 0, .int .i64 0, .int .i64 0, .int .i64 0, .int .i64 0], .int .i64 0], []⟩ 8 (by kernel_rfl) (by kernel_rfl) (by kernel_rfl) (by kernel_rfl)) ?_
  intro W base args ds gs before hval0 hW hcnd hsz0 _
  have hval : ∀ (j : Nat) t v, Try.f6.params[j]? = some t → args[j]? = some v → Value.okWide Try.prog W .any base t v := hval0
  have hW' := hW
  obtain ⟨p, q, hA0, hV, rfl, hfz, hnd⟩ := hW
  have hA : DataW.TrodAll enc Try.prog W 0 (fun _ => true) true Try.f6.params.toList args.toList ds p := hA0
  rw [Try.params6] at hA hval
  obtain ⟨v0, vs0, d0, ds0, p0, q0, hargs, rfl, rfl, h0, r0⟩ := trodAll_cons hA
  obtain ⟨v1, vs1, d1, ds1, p1, q1, rfl, rfl, rfl, h1, r1⟩ := trodAll_cons r0
  obtain ⟨rfl, rfl, rfl⟩ := trodAll_nil r1
  obtain rfl : args = #[v0, v1] := by cases args; simp_all
  obtain ⟨rfl, rfl⟩ := trodVars_none hV
  obtain ⟨cs0, rfl, hz0⟩ := okWide_struct Try.underlying24 (hval 0 24 v0 rfl rfl)
  have k0 := h0
  have lt0 : ∀ x ∈ p0, x.block < W.heap.size := by obtain ⟨m, hm⟩ := k0; exact DataW.trod_lt m _ _ _ hm
  obtain ⟨fu0, hf0⟩ := h0
  obtain ⟨x0, hK0, hx0⟩ := opens24 H enc W 0 _ true fu0 cs0.toList _ hf0
  obtain ⟨A0_0, c0_0, e0, l0_0, g0_0⟩ := k24_open hK0
  obtain rfl : cs0 = #[.slice A0_0 x0.f0.length c0_0, .int .i64 x0.f1, .int .i64 x0.f2, .int .i64 x0.f3, .int .i64 x0.f4, .int .i64 x0.f5, .int .i64 x0.f6, .int .i64 x0.f7, .int .i64 x0.f8] := by cases cs0; simp_all
  obtain ⟨x1, rfl, rfl, rfl, hx1⟩ := open_int Try.underlying3 (hval 1 3 v1 rfl rfl) h1
  obtain ⟨k, hp⟩ := Go.Proofs.Ytjmibjmlihmglaa.Pure.RulesPhases x0 x1 hx0 hx1
  refine (apogeelaw13_RulesPhases.calls k _ _ x0.f0 x0.f1 x0.f2 x0.f3 x0.f4 x0.f5 x0.f6 x0.f7 x0.f8 x1 true W g0_0 l0_0 hp).mono fun e W' ⟨he, bel⟩ => ?_
  subst he
  exact ⟨_, rfl, _, _, _, [], _, [], hW', trodAll_mk1 (shut_bool Try.underlying4 _), (trodAll_cons_mk (Below.trod laidOut (by kernel_rfl) (of_decide_eq_true (by kernel_rfl)) k0 bel lt0) (trodAll_cons_mk (shut_int Try.underlying3 hx1) trodAll_mk0)), rfl, bel.frame _, fun h => by cases h⟩
theorem over : Rows.rulesPhasesRow.holds Try.pinned (OpenSpec.ofChange Rows.rulesPhasesSpec) :=
  OpenClaim.holds_of_wide 6 Try.f6 rfl rfl rfl rfl rfl rfl rfl ⟨rfl, rfl, rfl, rfl, rfl⟩ rfl rfl rfl rfl rfl (by kernel_rfl) Try.func6 (by kernel_rfl)
    (of_decide_eq_true (by kernel_rfl)) (by unfold Func.isWrapper; first | (rw [if_pos (by decide +kernel)]; kernel_rfl) | (rw [if_neg (by decide +kernel)]; exact ⟨rfl, rfl⟩))
    (fun os started H enc _ => lifted os started H enc)
theorem proved : Rows.RulesPhasesSaid := over
#print axioms proved
end Go.Proofs.Ytjmibjmlihmglaa.rulesPhases
namespace Go.Proofs.Ytjmibjmlihmglaa
/-- The row, under a short name, for the claim. -/
theorem rulesPhases_holds : Rows.RulesPhasesSaid := rulesPhases.proved
end Go.Proofs.Ytjmibjmlihmglaa
