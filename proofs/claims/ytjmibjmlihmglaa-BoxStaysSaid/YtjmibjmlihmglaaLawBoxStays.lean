-- Written by a program of this session: the row of the law BoxStays, out of its plain statement's proof and the walks.
import Derived.Test.YtjmibjmlihmglaaRows
import Derived.Test.YtjmibjmlihmglaaGx26
import Derived.Test.YtjmibjmlihmglaaStBoxStays
import Derived.Test.YtjmibjmlihmglaaPureBoxStays
import Derived.Test.YtjmibjmlihmglaaOpens
import Derived.WalkKit
import Derived.ProofKit
import Derived.OpenShut
import Derived.ShutString
import Derived.ChangeOld
import Derived.Below
import Derived.SizedLaws
namespace Go.Proofs.Ytjmibjmlihmglaa.boxStays
open Go.ChangeShapes Go.WideShapes Go.ChangeAt Go.RowKit Go.Proofs.Ytjmibjmlihmglaa.G Go.Proofs.Ytjmibjmlihmglaa.G.BoxStays Go.Proofs.YtjmibjmlihmglaaW.PrintWords
open Go.ChangeMaps (open_string shut_string)
set_option linter.unusedVariables false
theorem own : ownKnob Try.prog.godebug = none := by kernel_rfl
theorem laidOut : laidOutB Try.prog = true := by kernel_rfl
theorem opens41 : Q.Opens Try.prog 41 k41 WF41 :=
  Q.opens_iso (fun x : S41 => (x.f0, x.f1)) (fun p => ⟨p.1, p.2⟩) (fun _ => rfl) (Q.opens_struct Try.underlying41 (by kernel_rfl) (Q.opensF_cons (Q.opens_int (by kernel_rfl)) rfl (by kernel_rfl) (Q.opensF_one (Q.opens_int (by kernel_rfl)) rfl (by kernel_rfl))))
theorem opens44 : Q.Opens Try.prog 44 k44 WF44 :=
  Q.opens_iso (fun x : S44 => (x.f0, x.f1)) (fun p => ⟨p.1, p.2⟩) (fun _ => rfl) (Q.opens_struct Try.underlying44 (by kernel_rfl) (Q.opensF_cons opens41 rfl (by kernel_rfl) (Q.opensF_one opens41 rfl (by kernel_rfl))))
set_option maxRecDepth 100000 in
theorem lifted (os : Os) (started : os.Started) (H : Type) (enc : TypeId × Value → H) :
    ReturnsInHanded {} Try.checked os 12 .any (Rows.boxStaysSpec.pre6 enc Try.prog Try.f12 Rows.boxStaysRow.domain false) (Rows.boxStaysSpec.post enc Try.prog Try.f12 false true false false) := by
  refine returnsInHanded_of_change_sized (C := Try.checked) own started (by kernel_rfl) Try.func12
    (ChangeSpec.witness6 (enc := enc) (C := Try.checked) false ⟨#[], #[.agg #[.int .i64 0, .int .i64 0, .int .i64 0, .int .i64 0], .slice none 0 0, .agg #[.int .i64 0, .int .i64 0], .agg #[.int .i64 0, .int .i64 0]], []⟩ 8 (by kernel_rfl) (by kernel_rfl) (by kernel_rfl) (by kernel_rfl)) ?_
  intro W base args ds gs before hval0 hW hcnd hsz0 _
  have hval : ∀ (j : Nat) t v, Try.f12.params[j]? = some t → args[j]? = some v → Value.okWide Try.prog W .any base t v := hval0
  have hW' := hW
  obtain ⟨p, q, hA0, hV, rfl, hfz, hnd⟩ := hW
  have hA : DataW.TrodAll enc Try.prog W 0 (fun _ => true) true Try.f12.params.toList args.toList ds p := hA0
  rw [Try.params12] at hA hval
  obtain ⟨v0, vs0, d0, ds0, p0, q0, hargs, rfl, rfl, h0, r0⟩ := trodAll_cons hA
  obtain ⟨v1, vs1, d1, ds1, p1, q1, rfl, rfl, rfl, h1, r1⟩ := trodAll_cons r0
  obtain ⟨v2, vs2, d2, ds2, p2, q2, rfl, rfl, rfl, h2, r2⟩ := trodAll_cons r1
  obtain ⟨v3, vs3, d3, ds3, p3, q3, rfl, rfl, rfl, h3, r3⟩ := trodAll_cons r2
  obtain ⟨rfl, rfl, rfl⟩ := trodAll_nil r3
  obtain rfl : args = #[v0, v1, v2, v3] := by cases args; simp_all
  obtain ⟨rfl, rfl⟩ := trodVars_none hV
  obtain ⟨cs0, rfl, hz0⟩ := okWide_struct Try.underlying44 (hval 0 44 v0 rfl rfl)
  have k0 := h0
  have lt0 : ∀ x ∈ p0, x.block < W.heap.size := by obtain ⟨m, hm⟩ := k0; exact DataW.trod_lt m _ _ _ hm
  obtain ⟨fu0, hf0⟩ := h0
  obtain ⟨x0, hK0, hx0⟩ := opens44 H enc W 0 _ true fu0 cs0.toList _ hf0
  have e0 := k44_open hK0
  obtain rfl : cs0 = #[.int .i64 x0.f0.f0, .int .i64 x0.f0.f1, .int .i64 x0.f1.f0, .int .i64 x0.f1.f1] := by cases cs0; simp_all
  obtain ⟨a1, len1, cap1, rfl⟩ := okWide_slice Try.underlying28 (hval 1 28 v1 rfl rfl)
  have k1 := h1
  have lt1 : ∀ x ∈ p1, x.block < W.heap.size := by obtain ⟨m, hm⟩ := k1; exact DataW.trod_lt m _ _ _ hm
  obtain ⟨fu1, hf1⟩ := h1
  obtain ⟨x1, hK1, hx1⟩ := (Q.opens_slice (P := Try.prog) (t := 28) (by kernel_rfl) (by kernel_rfl) opens41) H enc W 0 _ true fu1 _ _ hf1
  obtain ⟨A1, c1, e1, l1, g1⟩ := hK1
  simp only [Value.cells, List.cons.injEq, Value.slice.injEq, and_true] at e1
  obtain ⟨rfl, rfl, rfl⟩ := e1
  obtain ⟨cs2, rfl, hz2⟩ := okWide_struct Try.underlying41 (hval 2 41 v2 rfl rfl)
  have k2 := h2
  have lt2 : ∀ x ∈ p2, x.block < W.heap.size := by obtain ⟨m, hm⟩ := k2; exact DataW.trod_lt m _ _ _ hm
  obtain ⟨fu2, hf2⟩ := h2
  obtain ⟨x2, hK2, hx2⟩ := opens41 H enc W 0 _ true fu2 cs2.toList _ hf2
  have e2 := k41_open hK2
  obtain rfl : cs2 = #[.int .i64 x2.f0, .int .i64 x2.f1] := by cases cs2; simp_all
  obtain ⟨cs3, rfl, hz3⟩ := okWide_struct Try.underlying41 (hval 3 41 v3 rfl rfl)
  have k3 := h3
  have lt3 : ∀ x ∈ p3, x.block < W.heap.size := by obtain ⟨m, hm⟩ := k3; exact DataW.trod_lt m _ _ _ hm
  obtain ⟨fu3, hf3⟩ := h3
  obtain ⟨x3, hK3, hx3⟩ := opens41 H enc W 0 _ true fu3 cs3.toList _ hf3
  have e3 := k41_open hK3
  obtain rfl : cs3 = #[.int .i64 x3.f0, .int .i64 x3.f1] := by cases cs3; simp_all
  obtain ⟨k, hp⟩ := Go.Proofs.Ytjmibjmlihmglaa.Pure.BoxStays x0 x1 x2 x3 hx0 hx1 hx2 hx3
  refine (apogeelaw12_BoxStays.calls k x0.f0.f0 x0.f0.f1 x0.f1.f0 x0.f1.f1 _ _ x1 x2.f0 x2.f1 x3.f0 x3.f1 true W g1 l1 hp).mono fun e W' ⟨he, bel⟩ => ?_
  subst he
  exact ⟨_, rfl, _, _, _, [], _, [], hW', trodAll_mk1 (shut_bool Try.underlying4 _), (trodAll_cons_mk (Below.trod laidOut (by kernel_rfl) (of_decide_eq_true (by kernel_rfl)) k0 bel lt0) (trodAll_cons_mk (Below.trod laidOut (by kernel_rfl) (of_decide_eq_true (by kernel_rfl)) k1 bel lt1) (trodAll_cons_mk (Below.trod laidOut (by kernel_rfl) (of_decide_eq_true (by kernel_rfl)) k2 bel lt2) (trodAll_cons_mk (Below.trod laidOut (by kernel_rfl) (of_decide_eq_true (by kernel_rfl)) k3 bel lt3) trodAll_mk0)))), rfl, bel.frame _, fun h => by cases h⟩
theorem over : Rows.boxStaysRow.holds Try.pinned (OpenSpec.ofChange Rows.boxStaysSpec) :=
  OpenClaim.holds_of_wide 12 Try.f12 rfl rfl rfl rfl rfl rfl rfl ⟨rfl, rfl, rfl, rfl, rfl⟩ rfl rfl rfl rfl rfl (by kernel_rfl) Try.func12 (by kernel_rfl)
    (of_decide_eq_true (by kernel_rfl)) (by unfold Func.isWrapper; first | (rw [if_pos (by decide +kernel)]; kernel_rfl) | (rw [if_neg (by decide +kernel)]; exact ⟨rfl, rfl⟩))
    (fun os started H enc _ => lifted os started H enc)
theorem proved : Rows.BoxStaysSaid := over
#print axioms proved
end Go.Proofs.Ytjmibjmlihmglaa.boxStays
namespace Go.Proofs.Ytjmibjmlihmglaa
/-- The row, under a short name, for the claim. -/
theorem boxStays_holds : Rows.BoxStaysSaid := boxStays.proved
end Go.Proofs.Ytjmibjmlihmglaa
