-- Written by a program of this session: the row of the law BoxPoint, out of its plain statement's proof and the walks.
import Derived.Test.YtjmibjmlihmglaaRows
import Derived.Test.YtjmibjmlihmglaaGx27
import Derived.Test.YtjmibjmlihmglaaStBoxPoint
import Derived.Test.YtjmibjmlihmglaaPureBoxPoint
import Derived.Test.YtjmibjmlihmglaaOpens
import Derived.WalkKit
import Derived.ProofKit
import Derived.OpenShut
import Derived.ShutString
import Derived.ChangeOld
import Derived.Below
import Derived.SizedLaws
namespace Go.Proofs.Ytjmibjmlihmglaa.boxPoint
open Go.ChangeShapes Go.WideShapes Go.ChangeAt Go.RowKit Go.Proofs.Ytjmibjmlihmglaa.G Go.Proofs.Ytjmibjmlihmglaa.G.BoxPoint Go.Proofs.YtjmibjmlihmglaaW.PrintWords
open Go.ChangeMaps (open_string shut_string)
set_option linter.unusedVariables false
theorem own : ownKnob Try.prog.godebug = none := by kernel_rfl
theorem laidOut : laidOutB Try.prog = true := by kernel_rfl
theorem opens41 : Q.Opens Try.prog 41 k41 WF41 :=
  Q.opens_iso (fun x : S41 => (x.f0, x.f1)) (fun p => ⟨p.1, p.2⟩) (fun _ => rfl) (Q.opens_struct Try.underlying41 (by kernel_rfl) (Q.opensF_cons (Q.opens_int (by kernel_rfl)) rfl (by kernel_rfl) (Q.opensF_one (Q.opens_int (by kernel_rfl)) rfl (by kernel_rfl))))
set_option maxRecDepth 100000 in
theorem lifted (os : Os) (started : os.Started) (H : Type) (enc : TypeId × Value → H) :
    ReturnsInHanded {} Try.checked os 13 .any (Rows.boxPointSpec.pre6 enc Try.prog Try.f13 Rows.boxPointRow.domain false) (Rows.boxPointSpec.post enc Try.prog Try.f13 false true false false) := by
  refine returnsInHanded_of_change_sized (C := Try.checked) own started (by kernel_rfl) Try.func13
    (ChangeSpec.witness6 (enc := enc) (C := Try.checked) false ⟨#[], #[.slice none 0 0, .agg #[.int .i64 0, .int .i64 0]], []⟩ 8 (by kernel_rfl) (by kernel_rfl) (by kernel_rfl) (by kernel_rfl)) ?_
  intro W base args ds gs before hval0 hW hcnd hsz0 _
  have hval : ∀ (j : Nat) t v, Try.f13.params[j]? = some t → args[j]? = some v → Value.okWide Try.prog W .any base t v := hval0
  have hW' := hW
  obtain ⟨p, q, hA0, hV, rfl, hfz, hnd⟩ := hW
  have hA : DataW.TrodAll enc Try.prog W 0 (fun _ => true) true Try.f13.params.toList args.toList ds p := hA0
  rw [Try.params13] at hA hval
  obtain ⟨v0, vs0, d0, ds0, p0, q0, hargs, rfl, rfl, h0, r0⟩ := trodAll_cons hA
  obtain ⟨v1, vs1, d1, ds1, p1, q1, rfl, rfl, rfl, h1, r1⟩ := trodAll_cons r0
  obtain ⟨rfl, rfl, rfl⟩ := trodAll_nil r1
  obtain rfl : args = #[v0, v1] := by cases args; simp_all
  obtain ⟨rfl, rfl⟩ := trodVars_none hV
  obtain ⟨a0, len0, cap0, rfl⟩ := okWide_slice Try.underlying28 (hval 0 28 v0 rfl rfl)
  have k0 := h0
  have lt0 : ∀ x ∈ p0, x.block < W.heap.size := by obtain ⟨m, hm⟩ := k0; exact DataW.trod_lt m _ _ _ hm
  obtain ⟨fu0, hf0⟩ := h0
  obtain ⟨x0, hK0, hx0⟩ := (Q.opens_slice (P := Try.prog) (t := 28) (by kernel_rfl) (by kernel_rfl) opens41) H enc W 0 _ true fu0 _ _ hf0
  obtain ⟨A0, c0, e0, l0, g0⟩ := hK0
  simp only [Value.cells, List.cons.injEq, Value.slice.injEq, and_true] at e0
  obtain ⟨rfl, rfl, rfl⟩ := e0
  obtain ⟨cs1, rfl, hz1⟩ := okWide_struct Try.underlying41 (hval 1 41 v1 rfl rfl)
  have k1 := h1
  have lt1 : ∀ x ∈ p1, x.block < W.heap.size := by obtain ⟨m, hm⟩ := k1; exact DataW.trod_lt m _ _ _ hm
  obtain ⟨fu1, hf1⟩ := h1
  obtain ⟨x1, hK1, hx1⟩ := opens41 H enc W 0 _ true fu1 cs1.toList _ hf1
  have e1 := k41_open hK1
  obtain rfl : cs1 = #[.int .i64 x1.f0, .int .i64 x1.f1] := by cases cs1; simp_all
  obtain ⟨k, hp⟩ := Go.Proofs.Ytjmibjmlihmglaa.Pure.BoxPoint x0 x1 hx0 hx1
  refine (apogeelaw12_BoxPoint.calls k _ _ x0 x1.f0 x1.f1 true W g0 l0 hp).mono fun e W' ⟨he, bel⟩ => ?_
  subst he
  exact ⟨_, rfl, _, _, _, [], _, [], hW', trodAll_mk1 (shut_bool Try.underlying4 _), (trodAll_cons_mk (Below.trod laidOut (by kernel_rfl) (of_decide_eq_true (by kernel_rfl)) k0 bel lt0) (trodAll_cons_mk (Below.trod laidOut (by kernel_rfl) (of_decide_eq_true (by kernel_rfl)) k1 bel lt1) trodAll_mk0)), rfl, bel.frame _, fun h => by cases h⟩
theorem over : Rows.boxPointRow.holds Try.pinned (OpenSpec.ofChange Rows.boxPointSpec) :=
  OpenClaim.holds_of_wide 13 Try.f13 rfl rfl rfl rfl rfl rfl rfl ⟨rfl, rfl, rfl, rfl, rfl⟩ rfl rfl rfl rfl rfl (by kernel_rfl) Try.func13 (by kernel_rfl)
    (of_decide_eq_true (by kernel_rfl)) (by unfold Func.isWrapper; first | (rw [if_pos (by decide +kernel)]; kernel_rfl) | (rw [if_neg (by decide +kernel)]; exact ⟨rfl, rfl⟩))
    (fun os started H enc _ => lifted os started H enc)
theorem proved : Rows.BoxPointSaid := over
#print axioms proved
end Go.Proofs.Ytjmibjmlihmglaa.boxPoint
namespace Go.Proofs.Ytjmibjmlihmglaa
/-- The row, under a short name, for the claim. -/
theorem boxPoint_holds : Rows.BoxPointSaid := boxPoint.proved
end Go.Proofs.Ytjmibjmlihmglaa
