-- Written by a program of this session: the row of the law BoxMeets, out of its plain statement's proof and the walks.
import Derived.Test.YtjmibjmlihmglaaRows
import Derived.Test.YtjmibjmlihmglaaGx21
import Derived.Test.YtjmibjmlihmglaaStBoxMeets
import Derived.Test.YtjmibjmlihmglaaPureBoxMeets
import Derived.Test.YtjmibjmlihmglaaOpens
import Derived.WalkKit
import Derived.ProofKit
import Derived.OpenShut
import Derived.ShutString
import Derived.ChangeOld
import Derived.Below
import Derived.SizedLaws
namespace Go.Proofs.Ytjmibjmlihmglaa.boxMeets
open Go.ChangeShapes Go.WideShapes Go.ChangeAt Go.RowKit Go.Proofs.Ytjmibjmlihmglaa.G Go.Proofs.Ytjmibjmlihmglaa.G.BoxMeets Go.Proofs.YtjmibjmlihmglaaW.PrintWords
open Go.ChangeMaps (open_string shut_string)
set_option linter.unusedVariables false
theorem own : ownKnob Try.prog.godebug = none := by kernel_rfl
theorem laidOut : laidOutB Try.prog = true := by kernel_rfl
theorem opens41 : Q.Opens Try.prog 41 k41 WF41 :=
  Q.opens_iso (fun x : S41 => (x.f0, x.f1)) (fun p => ⟨p.1, p.2⟩) (fun _ => rfl) (Q.opens_struct Try.underlying41 (by kernel_rfl) (Q.opensF_cons (Q.opens_int (by kernel_rfl)) rfl (by kernel_rfl) (Q.opensF_one (Q.opens_int (by kernel_rfl)) rfl (by kernel_rfl))))
theorem opens44 : Q.Opens Try.prog 44 k44 WF44 :=
  Q.opens_iso (fun x : S44 => (x.f0, x.f1)) (fun p => ⟨p.1, p.2⟩) (fun _ => rfl) (Q.opens_struct Try.underlying44 (by kernel_rfl) (Q.opensF_cons opens41 rfl (by kernel_rfl) (Q.opensF_one opens41 rfl (by kernel_rfl))))
set_option maxRecDepth 100000 in
theorem lifted (os : Os) (started : os.Started) (H : Type) (enc : TypeId × Value → H) :
    ReturnsInHanded {} Try.checked os 10 .any (Rows.boxMeetsSpec.pre6 enc Try.prog Try.f10 Rows.boxMeetsRow.domain false) (Rows.boxMeetsSpec.post enc Try.prog Try.f10 false true false false) := by
  refine returnsInHanded_of_change_sized (C := Try.checked) own started (by kernel_rfl) Try.func10
    (ChangeSpec.witness6 (enc := enc) (C := Try.checked) false ⟨#[], #[.agg #[.int .i64 0, .int .i64 0, .int .i64 0, .int .i64 0], .agg #[.int .i64 0, .int .i64 0], .agg #[.int .i64 0, .int .i64 0]], []⟩ 8 (by kernel_rfl) (by kernel_rfl) (by kernel_rfl) (by kernel_rfl)) ?_
  intro W base args ds gs before hval0 hW hcnd hsz0 _
  have hval : ∀ (j : Nat) t v, Try.f10.params[j]? = some t → args[j]? = some v → Value.okWide Try.prog W .any base t v := hval0
  have hW' := hW
  obtain ⟨p, q, hA0, hV, rfl, hfz, hnd⟩ := hW
  have hA : DataW.TrodAll enc Try.prog W 0 (fun _ => true) true Try.f10.params.toList args.toList ds p := hA0
  rw [Try.params10] at hA hval
  obtain ⟨v0, vs0, d0, ds0, p0, q0, hargs, rfl, rfl, h0, r0⟩ := trodAll_cons hA
  obtain ⟨v1, vs1, d1, ds1, p1, q1, rfl, rfl, rfl, h1, r1⟩ := trodAll_cons r0
  obtain ⟨v2, vs2, d2, ds2, p2, q2, rfl, rfl, rfl, h2, r2⟩ := trodAll_cons r1
  obtain ⟨rfl, rfl, rfl⟩ := trodAll_nil r2
  obtain rfl : args = #[v0, v1, v2] := by cases args; simp_all
  obtain ⟨rfl, rfl⟩ := trodVars_none hV
  obtain ⟨cs0, rfl, hz0⟩ := okWide_struct Try.underlying44 (hval 0 44 v0 rfl rfl)
  have k0 := h0
  have lt0 : ∀ x ∈ p0, x.block < W.heap.size := by obtain ⟨m, hm⟩ := k0; exact DataW.trod_lt m _ _ _ hm
  obtain ⟨fu0, hf0⟩ := h0
  obtain ⟨x0, hK0, hx0⟩ := opens44 H enc W 0 _ true fu0 cs0.toList _ hf0
  have e0 := k44_open hK0
  obtain rfl : cs0 = #[.int .i64 x0.f0.f0, .int .i64 x0.f0.f1, .int .i64 x0.f1.f0, .int .i64 x0.f1.f1] := by cases cs0; simp_all
  obtain ⟨cs1, rfl, hz1⟩ := okWide_struct Try.underlying41 (hval 1 41 v1 rfl rfl)
  have k1 := h1
  have lt1 : ∀ x ∈ p1, x.block < W.heap.size := by obtain ⟨m, hm⟩ := k1; exact DataW.trod_lt m _ _ _ hm
  obtain ⟨fu1, hf1⟩ := h1
  obtain ⟨x1, hK1, hx1⟩ := opens41 H enc W 0 _ true fu1 cs1.toList _ hf1
  have e1 := k41_open hK1
  obtain rfl : cs1 = #[.int .i64 x1.f0, .int .i64 x1.f1] := by cases cs1; simp_all
  obtain ⟨cs2, rfl, hz2⟩ := okWide_struct Try.underlying41 (hval 2 41 v2 rfl rfl)
  have k2 := h2
  have lt2 : ∀ x ∈ p2, x.block < W.heap.size := by obtain ⟨m, hm⟩ := k2; exact DataW.trod_lt m _ _ _ hm
  obtain ⟨fu2, hf2⟩ := h2
  obtain ⟨x2, hK2, hx2⟩ := opens41 H enc W 0 _ true fu2 cs2.toList _ hf2
  have e2 := k41_open hK2
  obtain rfl : cs2 = #[.int .i64 x2.f0, .int .i64 x2.f1] := by cases cs2; simp_all
  obtain ⟨k, hp⟩ := Go.Proofs.Ytjmibjmlihmglaa.Pure.BoxMeets x0 x1 x2 hx0 hx1 hx2
  refine (apogeelaw12_BoxMeets.calls k x0.f0.f0 x0.f0.f1 x0.f1.f0 x0.f1.f1 x1.f0 x1.f1 x2.f0 x2.f1 true W  hp).mono fun e W' ⟨he, bel⟩ => ?_
  subst he
  exact ⟨_, rfl, _, _, _, [], _, [], hW', trodAll_mk1 (shut_bool Try.underlying4 _), (trodAll_cons_mk (Below.trod laidOut (by kernel_rfl) (of_decide_eq_true (by kernel_rfl)) k0 bel lt0) (trodAll_cons_mk (Below.trod laidOut (by kernel_rfl) (of_decide_eq_true (by kernel_rfl)) k1 bel lt1) (trodAll_cons_mk (Below.trod laidOut (by kernel_rfl) (of_decide_eq_true (by kernel_rfl)) k2 bel lt2) trodAll_mk0))), rfl, bel.frame _, fun h => by cases h⟩
theorem over : Rows.boxMeetsRow.holds Try.pinned (OpenSpec.ofChange Rows.boxMeetsSpec) :=
  OpenClaim.holds_of_wide 10 Try.f10 rfl rfl rfl rfl rfl rfl rfl ⟨rfl, rfl, rfl, rfl, rfl⟩ rfl rfl rfl rfl rfl (by kernel_rfl) Try.func10 (by kernel_rfl)
    (of_decide_eq_true (by kernel_rfl)) (by unfold Func.isWrapper; first | (rw [if_pos (by decide +kernel)]; kernel_rfl) | (rw [if_neg (by decide +kernel)]; exact ⟨rfl, rfl⟩))
    (fun os started H enc _ => lifted os started H enc)
theorem proved : Rows.BoxMeetsSaid := over
#print axioms proved
end Go.Proofs.Ytjmibjmlihmglaa.boxMeets
namespace Go.Proofs.Ytjmibjmlihmglaa
/-- The row, under a short name, for the claim. -/
theorem boxMeets_holds : Rows.BoxMeetsSaid := boxMeets.proved
end Go.Proofs.Ytjmibjmlihmglaa
