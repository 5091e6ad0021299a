/- The impact's box of any nav, in plain numbers. -/
import Derived.Test.YtfeekdoakoabeaaGx5
import Derived.Test.YtfeekdoakoabeaaGx6
import Derived.Test.YtfeekdoakoabeaaGx7
import Derived.Test.YtfeekdoakoabeaaArith
import Derived.Test.YtfeekdoakoabeaaWideBase
import Derived.Test.YtfeekdoakoabeaaWideAdd
import Derived.Test.YtfeekdoakoabeaaWide128
import Derived.Test.YtfeekdoakoabeaaWideMul
import Derived.Test.YtfeekdoakoabeaaGeoBase
import Derived.Test.YtfeekdoakoabeaaGeo
import Derived.Test.YtfeekdoakoabeaaPoint
import Derived.Test.YtfeekdoakoabeaaBoxBase
import Derived.Test.YtfeekdoakoabeaaRoot
import Derived.Test.YtfeekdoakoabeaaFall
import Derived.Test.YtfeekdoakoabeaaImpact
import Derived.Test.YtfeekdoakoabeaaTimes
namespace Go.Proofs.Ytfeekdoakoabeaa.Q
open Go.RowKit Go.Proofs.Ytfeekdoakoabeaa.G Go.Proofs.Ytfeekdoakoabeaa.Geo Go.Proofs.YtfeekdoakoabeaaW.PrintWords Go.Proofs.YtfeekdoakoabeaaW.PrintLast Go.Proofs.YtfeekdoakoabeaaW.PrintMore
set_option linter.unusedVariables false
set_option linter.unusedSimpArgs false
def NavIn (x y z u v w g : Int) : Prop := May z w g ∧ (-2147483648 ≤ x ∧ x ≤ 2147483648) ∧ (-2147483648 ≤ y ∧ y ≤ 2147483648) ∧ (-131072 ≤ u ∧ u ≤ 131072) ∧ (-131072 ≤ v ∧ v ≤ 131072)
instance (x y z u v w g : Int) : Decidable (NavIn x y z u v w g) := inferInstanceAs (Decidable (_ ∧ _))
theorem ev_itx {α : Type} {p : Prop} [Decidable p] {f g : Nat → Option α} {r : α} (h1 : p → Ev f r) (h2 : ¬ p → Ev g r) : Ev (fun k => if p then f k else g k) r := by
  by_cases c : p
  · exact Ev.congr (fun k => if_pos c) (h1 c)
  · exact Ev.congr (fun k => if_neg c) (h2 c)
theorem within2_all (n a b : Int) (hn : 0 ≤ n ∧ n ≤ 4294967296) : Ev (fun k => impact_within.f k n [a, b]) (decide ((-n ≤ a ∧ a ≤ n) ∧ (-n ≤ b ∧ b ≤ n))) := by
  refine Ev.congr (f := fun k => impact_within.l0 k n [a, b] 2 0) (fun k => rfl) ?_
  refine Ev.step (f := fun k => if a < -n then some false else (if a > n then some false else impact_within.l0 k n [a, b] 2 1)) (fun k => ?_) ?_
  · simp only [impact_within.l0]
    rw [if_pos (by decide), if_pos (by decide), if_pos (by simp), show rd [a, b] 0 = a from rfl, w64 (x := -n) (by omega) (by omega), show wrap64 (0 + 1) = 1 from w64 (by decide) (by decide)]
  refine ev_itx (fun c => by rw [decide_eq_false (by omega)]; exact Ev.now _) (fun c1 => ev_itx (fun c => by rw [decide_eq_false (by omega)]; exact Ev.now _) (fun c2 => ?_))
  refine Ev.step (f := fun k => if b < -n then some false else (if b > n then some false else impact_within.l0 k n [a, b] 2 2)) (fun k => ?_) ?_
  · simp only [impact_within.l0]
    rw [if_pos (by decide), if_pos (by decide), if_pos (by simp), show rd [a, b] 1 = b from rfl, w64 (x := -n) (by omega) (by omega), show wrap64 (1 + 1) = 2 from w64 (by decide) (by decide)]
  refine ev_itx (fun c => by rw [decide_eq_false (by omega)]; exact Ev.now _) (fun c3 => ev_itx (fun c => by rw [decide_eq_false (by omega)]; exact Ev.now _) (fun c4 => ?_))
  rw [decide_eq_true (by omega)]
  refine Ev.step (f := fun k => some true) (fun k => ?_) (Ev.now _)
  simp only [impact_within.l0]
  rw [if_neg (by decide)]
theorem may_all (a b x y z u v w : Int) : Ev (fun k => impact_may.f k a b x y z u v w) (decide (((-2147483648 ≤ x ∧ x ≤ 2147483648) ∧ (-2147483648 ≤ y ∧ y ≤ 2147483648)) ∧ ((-131072 ≤ u ∧ u ≤ 131072) ∧ (-131072 ≤ v ∧ v ≤ 131072)))) := by
  refine Ev.bind (within2_all 2147483648 x y (by decide)) ?_
  by_cases c : (-2147483648 ≤ x ∧ x ≤ 2147483648) ∧ (-2147483648 ≤ y ∧ y ≤ 2147483648)
  · refine Ev.congr (f := fun k => (impact_within.f k 131072 [u, v]).bind fun t => some t) (fun k => by rw [decide_eq_true c, if_pos rfl]) (Ev.bind (within2_all 131072 u v (by decide)) ?_)
    rw [show decide (((-2147483648 ≤ x ∧ x ≤ 2147483648) ∧ (-2147483648 ≤ y ∧ y ≤ 2147483648)) ∧ ((-131072 ≤ u ∧ u ≤ 131072) ∧ (-131072 ≤ v ∧ v ≤ 131072))) = decide ((-131072 ≤ u ∧ u ≤ 131072) ∧ (-131072 ≤ v ∧ v ≤ 131072)) from decide_eq_decide.mpr ⟨fun h => h.2, fun h => ⟨c, h⟩⟩]
    exact Ev.now _
  · refine Ev.congr (f := fun k => some false) (fun k => by rw [decide_eq_false c]; rfl) ?_
    rw [decide_eq_false (fun h => c h.1)]; exact Ev.now _
def SpanOf (z w g e lo hi : Int) : Prop := ∃ r s, (0 ≤ z - e → IsRoot ((w - e) * (w - e) + 2 * g * (z - e)) r) ∧ (0 ≤ z + e → IsRoot ((w + e) * (w + e) + 2 * g * (z + e)) s) ∧ lo = timeOf (z - e) (w - e) g r ∧ hi = timeOf (z + e) (w + e) g s + 2
theorem box_in_ev (a b x y z u v w g e : Int) (h : NavIn x y z u v w g) (he : 0 ≤ e ∧ e ≤ 2048) :
    ∃ lo hi, SpanOf z w g e lo hi ∧ rightB (bl x u e lo hi) (bl y v e lo hi) (bh x u e lo hi) (bh y v e lo hi) = true ∧
      Ev (fun k => impact_Box.f k a b x y z u v w g e) (bl x u e lo hi, bl y v e lo hi, bh x u e lo hi, bh y v e lo hi, true) := by
  obtain ⟨hm, h1, h2, h3, h4⟩ := h
  obtain ⟨r, s, hr, hs, hev⟩ := box_ev a b x y z u v w g e hm he h1 h2 h3 h4
  have hm' := hm
  unfold May at hm'
  have t1 := timeOf_bounds (z - e) (w - e) g r (by unfold Small; omega) hr
  have t2 := timeOf_bounds (z + e) (w + e) g s (by unfold Small; omega) hs
  have p1 := side_bounds x u e (timeOf (z - e) (w - e) g r) (timeOf (z + e) (w + e) g s + 2) h1 h3 he (by omega) (by omega)
  have p2 := side_bounds y v e (timeOf (z - e) (w - e) g r) (timeOf (z + e) (w + e) g s + 2) h2 h4 he (by omega) (by omega)
  refine ⟨_, _, ⟨r, s, hr, hs, rfl, rfl⟩, ?_, hev⟩
  rw [rightB_iff]; unfold Ok; simp only; omega
theorem box_out_ev (a b x y z u v w g e : Int) (h : ¬ NavIn x y z u v w g) (he : 0 ≤ e ∧ e ≤ 2048) :
    ∃ q : Int × Int × Int × Int × Bool, q.2.2.2.2 = false ∧ Ev (fun k => impact_Box.f k a b x y z u v w g e) q := by
  have no : ∀ l1 l2 : Int, Ev (fun k => impact_Box.j0 k e l1 l2 true a b x y z u v w 0 0 0 0) (0, 0, 0, 0, false) := fun l1 l2 =>
    Ev.step (f := fun _ => some (0, 0, 0, 0, false)) (fun k => by simp only [impact_Box.j0]; rw [if_pos trivial]) (Ev.now _)
  refine ⟨(0, 0, 0, 0, false), rfl, ?_⟩
  by_cases hm : May z w g
  · obtain ⟨r, s, hr, hs, hsp⟩ := span_ev z w g e hm he
    refine Ev.bind hsp ?_
    refine Ev.congr (f := fun k => (impact_may.f k a b x y z u v w).bind fun t => (impact_Box.j0 k e (timeOf (z - e) (w - e) g r) (timeOf (z + e) (w + e) g s + 2) (!t) a b x y z u v w 0 0 0 0)) (fun k => if_pos rfl) ?_
    refine Ev.bind (may_all a b x y z u v w) ?_
    rw [decide_eq_false (fun k => h ⟨hm, k.1.1, k.1.2, k.2.1, k.2.2⟩)]
    exact no _ _
  · have hs : Ev (fun k => fall_Span.f k z w g e) (0, 0, false) := by
      refine Ev.congr (f := fun k => fall_Span.j0 k z w g e true) (fun k => ?_) (Ev.step (f := fun _ => some (0, 0, false)) (fun k => by simp only [fall_Span.j0]; rw [if_pos trivial]) (Ev.now _))
      unfold fall_Span.f
      rw [within_plain, may_plain]
      simp only [Option.bind_some, decide_eq_true he, decide_eq_false hm, if_true, Bool.not_false]
    exact Ev.bind hs (Ev.congr (fun k => if_neg (by decide)) (no _ _))
theorem land10 (n : Int) : Go.bits .and .i64 n 1023 = n % 1024 := by
  have h127 : (BitVec.ofInt 64 1023).toNat = 2 ^ 10 - 1 := by decide
  have key : (BitVec.ofInt 64 n &&& BitVec.ofInt 64 1023).toNat = (n % ((2 ^ 64 : Nat) : Int)).toNat % 2 ^ 10 := by
    rw [BitVec.toNat_and, BitVec.toNat_ofInt, h127, Nat.and_two_pow_sub_one_eq_mod]
  show IntKind.i64.wrap ((BitVec.ofInt 64 n &&& BitVec.ofInt 64 1023).toNat : Nat) = n % 1024
  rw [key, IntKind.wrap_i64]
  omega
theorem ev_some19 {f : Nat → Option Bool} (h : Ev f true) : ∃ k, f k = some true := by obtain ⟨K, h⟩ := h; exact ⟨K, h K (Nat.le_refl _)⟩
end Go.Proofs.Ytfeekdoakoabeaa.Q
