-- Written by a program of this session: the row of the law ImpactSure, out of its plain statement's proof and the walks.
import Derived.Test.YtfeekdoakoabeaaRows
import Derived.Test.YtfeekdoakoabeaaGx28
import Derived.Test.YtfeekdoakoabeaaStImpactSure
import Derived.Test.YtfeekdoakoabeaaPureImpactSure
import Derived.Test.YtfeekdoakoabeaaOpens
import Derived.WalkKit
import Derived.ProofKit
import Derived.OpenShut
import Derived.ShutString
import Derived.ChangeOld
import Derived.Below
import Derived.SizedLaws
namespace Go.Proofs.Ytfeekdoakoabeaa.impactSure
open Go.ChangeShapes Go.WideShapes Go.ChangeAt Go.RowKit Go.Proofs.Ytfeekdoakoabeaa.G Go.Proofs.Ytfeekdoakoabeaa.G.ImpactSure Go.Proofs.YtfeekdoakoabeaaW.PrintWords
open Go.ChangeMaps (open_string shut_string)
set_option linter.unusedVariables false
theorem own : ownKnob Try.prog.godebug = none := by kernel_rfl
theorem laidOut : laidOutB Try.prog = true := by kernel_rfl
theorem opens23 : Q.Opens Try.prog 23 k23 WF23 :=
  Q.opens_iso (fun x : S23 => (x.f0, x.f1, x.f2, x.f3, x.f4, x.f5, x.f6, x.f7)) (fun p => ⟨p.1, p.2.1, p.2.2.1, p.2.2.2.1, p.2.2.2.2.1, p.2.2.2.2.2.1, p.2.2.2.2.2.2.1, p.2.2.2.2.2.2.2⟩) (fun _ => rfl) (Q.opens_struct Try.underlying23 (by kernel_rfl) (Q.opensF_cons (Q.opens_int (by kernel_rfl)) rfl (by kernel_rfl) (Q.opensF_cons (Q.opens_int (by kernel_rfl)) rfl (by kernel_rfl) (Q.opensF_cons (Q.opens_int (by kernel_rfl)) rfl (by kernel_rfl) (Q.opensF_cons (Q.opens_int (by kernel_rfl)) rfl (by kernel_rfl) (Q.opensF_cons (Q.opens_int (by kernel_rfl)) rfl (by kernel_rfl) (Q.opensF_cons (Q.opens_int (by kernel_rfl)) rfl (by kernel_rfl) (Q.opensF_cons (Q.opens_int (by kernel_rfl)) rfl (by kernel_rfl) (Q.opensF_one (Q.opens_int (by kernel_rfl)) rfl (by kernel_rfl))))))))))
theorem opens24 : Q.Opens Try.prog 24 k24 WF24 :=
  Q.opens_iso (fun x : S24 => (x.f0, x.f1, x.f2, x.f3, x.f4, x.f5)) (fun p => ⟨p.1, p.2.1, p.2.2.1, p.2.2.2.1, p.2.2.2.2.1, p.2.2.2.2.2⟩) (fun _ => rfl) (Q.opens_array (fs := [⟨"", 2, 0, false, "", "", 0⟩, ⟨"", 2, 1, false, "", "", 0⟩, ⟨"", 2, 2, false, "", "", 0⟩, ⟨"", 2, 3, false, "", "", 0⟩, ⟨"", 2, 4, false, "", "", 0⟩, ⟨"", 2, 5, false, "", "", 0⟩]) (c := 1) Try.underlying24 (by kernel_rfl) (by kernel_rfl) (by decide) (by rfl) (Q.opensF_cons (Q.opens_int (by kernel_rfl)) rfl (by kernel_rfl) (Q.opensF_cons (Q.opens_int (by kernel_rfl)) rfl (by kernel_rfl) (Q.opensF_cons (Q.opens_int (by kernel_rfl)) rfl (by kernel_rfl) (Q.opensF_cons (Q.opens_int (by kernel_rfl)) rfl (by kernel_rfl) (Q.opensF_cons (Q.opens_int (by kernel_rfl)) rfl (by kernel_rfl) (Q.opensF_one (Q.opens_int (by kernel_rfl)) rfl (by kernel_rfl))))))))
set_option maxRecDepth 100000 in
theorem lifted (os : Os) (started : os.Started) (H : Type) (enc : TypeId × Value → H) :
    ReturnsInHanded {} Try.checked os 3 .any (Rows.impactSureSpec.pre6 enc Try.prog Try.f3 Rows.impactSureRow.domain false) (Rows.impactSureSpec.post enc Try.prog Try.f3 false true false false) := by
  refine returnsInHanded_of_change_sized (C := Try.checked) own started (by kernel_rfl) Try.func3
    (ChangeSpec.witness6 (enc := enc) (C := Try.checked) false ⟨#[], #[.agg #[.int .i64 0, .int .i64 0, .int .i64 0, .int .i64 0, .int .i64 0, .int .i64 0, .int .i64 0, .int .i64 0], .int .i64 0, .int .i64 0, .agg #[.int .i64 0, .int .i64 0, .int .i64 0, .int .i64 0, .int .i64 0, .int .i64 0]], []⟩ 8 (by kernel_rfl) (by kernel_rfl) (by kernel_rfl) (by kernel_rfl)) ?_
  intro W base args ds gs before hval0 hW hcnd hsz0 _
  have hval : ∀ (j : Nat) t v, Try.f3.params[j]? = some t → args[j]? = some v → Value.okWide Try.prog W .any base t v := hval0
  have hW' := hW
  obtain ⟨p, q, hA0, hV, rfl, hfz, hnd⟩ := hW
  have hA : DataW.TrodAll enc Try.prog W 0 (fun _ => true) true Try.f3.params.toList args.toList ds p := hA0
  rw [Try.params3] at hA hval
  obtain ⟨v0, vs0, d0, ds0, p0, q0, hargs, rfl, rfl, h0, r0⟩ := trodAll_cons hA
  obtain ⟨v1, vs1, d1, ds1, p1, q1, rfl, rfl, rfl, h1, r1⟩ := trodAll_cons r0
  obtain ⟨v2, vs2, d2, ds2, p2, q2, rfl, rfl, rfl, h2, r2⟩ := trodAll_cons r1
  obtain ⟨v3, vs3, d3, ds3, p3, q3, rfl, rfl, rfl, h3, r3⟩ := trodAll_cons r2
  obtain ⟨rfl, rfl, rfl⟩ := trodAll_nil r3
  obtain rfl : args = #[v0, v1, v2, v3] := by cases args; simp_all
  obtain ⟨rfl, rfl⟩ := trodVars_none hV
  obtain ⟨cs0, rfl, hz0⟩ := okWide_struct Try.underlying23 (hval 0 23 v0 rfl rfl)
  have k0 := h0
  have lt0 : ∀ x ∈ p0, x.block < W.heap.size := by obtain ⟨m, hm⟩ := k0; exact DataW.trod_lt m _ _ _ hm
  obtain ⟨fu0, hf0⟩ := h0
  obtain ⟨x0, hK0, hx0⟩ := opens23 H enc W 0 _ true fu0 cs0.toList _ hf0
  have e0 := k23_open hK0
  obtain rfl : cs0 = #[.int .i64 x0.f0, .int .i64 x0.f1, .int .i64 x0.f2, .int .i64 x0.f3, .int .i64 x0.f4, .int .i64 x0.f5, .int .i64 x0.f6, .int .i64 x0.f7] := by cases cs0; simp_all
  obtain ⟨x1, rfl, rfl, rfl, hx1⟩ := open_int Try.underlying2 (hval 1 2 v1 rfl rfl) h1
  obtain ⟨x2, rfl, rfl, rfl, hx2⟩ := open_int Try.underlying2 (hval 2 2 v2 rfl rfl) h2
  obtain ⟨cs3, rfl, hz3⟩ := Q.okWide_array Try.underlying24 (hval 3 24 v3 rfl rfl)
  have k3 := h3
  have lt3 : ∀ x ∈ p3, x.block < W.heap.size := by obtain ⟨m, hm⟩ := k3; exact DataW.trod_lt m _ _ _ hm
  obtain ⟨fu3, hf3⟩ := h3
  obtain ⟨x3, hK3, hx3⟩ := opens24 H enc W 0 _ true fu3 cs3.toList _ hf3
  have e3 := k24_open hK3
  obtain rfl : cs3 = #[.int .i64 x3.f0, .int .i64 x3.f1, .int .i64 x3.f2, .int .i64 x3.f3, .int .i64 x3.f4, .int .i64 x3.f5] := by cases cs3; simp_all
  obtain ⟨k, hp⟩ := Go.Proofs.Ytfeekdoakoabeaa.Pure.ImpactSure x0 x1 x2 x3 hx0 hx1 hx2 hx3
  refine (apogeelaw18_ImpactSure.calls k x0.f0 x0.f1 x0.f2 x0.f3 x0.f4 x0.f5 x0.f6 x0.f7 x1 x2 x3.f0 x3.f1 x3.f2 x3.f3 x3.f4 x3.f5 true W  hp).mono fun e W' ⟨he, bel⟩ => ?_
  subst he
  exact ⟨_, rfl, _, _, _, [], _, [], hW', trodAll_mk1 (shut_bool Try.underlying4 _), (trodAll_cons_mk (Below.trod laidOut (by kernel_rfl) (of_decide_eq_true (by kernel_rfl)) k0 bel lt0) (trodAll_cons_mk (shut_int Try.underlying2 hx1) (trodAll_cons_mk (shut_int Try.underlying2 hx2) (trodAll_cons_mk (Below.trod laidOut (by kernel_rfl) (of_decide_eq_true (by kernel_rfl)) k3 bel lt3) trodAll_mk0)))), rfl, bel.frame _, fun h => by cases h⟩
theorem over : Rows.impactSureRow.holds Try.pinned (OpenSpec.ofChange Rows.impactSureSpec) :=
  OpenClaim.holds_of_wide 3 Try.f3 rfl rfl rfl rfl rfl rfl rfl ⟨rfl, rfl, rfl, rfl, rfl⟩ rfl rfl rfl rfl rfl (by kernel_rfl) Try.func3 (by kernel_rfl)
    (of_decide_eq_true (by kernel_rfl)) (by unfold Func.isWrapper; first | (rw [if_pos (by decide +kernel)]; kernel_rfl) | (rw [if_neg (by decide +kernel)]; exact ⟨rfl, rfl⟩))
    (fun os started H enc _ => lifted os started H enc)
theorem proved : Rows.ImpactSureSaid := over
#print axioms proved
end Go.Proofs.Ytfeekdoakoabeaa.impactSure
namespace Go.Proofs.Ytfeekdoakoabeaa
/-- The row, under a short name, for the claim. -/
theorem impactSure_holds : Rows.ImpactSureSaid := impactSure.proved
end Go.Proofs.Ytfeekdoakoabeaa
