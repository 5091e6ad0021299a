/- The impact's box of any nav, in plain numbers. -/
import Derived.Test.YtfeekdoakoabeaaGx7
import Derived.Test.YtfeekdoakoabeaaArith
import Derived.Test.YtfeekdoakoabeaaWideBase
import Derived.Test.YtfeekdoakoabeaaWideAdd
import Derived.Test.YtfeekdoakoabeaaWide128
import Derived.Test.YtfeekdoakoabeaaWideMul
import Derived.Test.YtfeekdoakoabeaaGeoBase
import Derived.Test.YtfeekdoakoabeaaGeo
import Derived.Test.YtfeekdoakoabeaaPoint
import Derived.Test.YtfeekdoakoabeaaBoxBase
import Derived.Test.YtfeekdoakoabeaaRoot
import Derived.Test.YtfeekdoakoabeaaFall
import Derived.Test.YtfeekdoakoabeaaImpact
import Derived.Test.YtfeekdoakoabeaaTimes
namespace Go.Proofs.Ytfeekdoakoabeaa.Q
open Go.RowKit Go.Proofs.Ytfeekdoakoabeaa.G Go.Proofs.Ytfeekdoakoabeaa.Geo Go.Proofs.YtfeekdoakoabeaaW.PrintWords Go.Proofs.YtfeekdoakoabeaaW.PrintLast Go.Proofs.YtfeekdoakoabeaaW.PrintMore
set_option linter.unusedVariables false
set_option linter.unusedSimpArgs false
def NavIn (x y z u v w g : Int) : Prop := May z w g ∧ (-2147483648 ≤ x ∧ x ≤ 2147483648) ∧ (-2147483648 ≤ y ∧ y ≤ 2147483648) ∧ (-131072 ≤ u ∧ u ≤ 131072) ∧ (-131072 ≤ v ∧ v ≤ 131072)
instance (x y z u v w g : Int) : Decidable (NavIn x y z u v w g) := inferInstanceAs (Decidable (_ ∧ _))
theorem ev_itx {α : Type} {p : Prop} [Decidable p] {f g : Nat → Option α} {r : α} (h1 : p → Ev f r) (h2 : ¬ p → Ev g r) : Ev (fun k => if p then f k else g k) r := by
  by_cases c : p
  · exact Ev.congr (fun k => if_pos c) (h1 c)
  · exact Ev.congr (fun k => if_neg c) (h2 c)
def SpanOf (z w g e lo hi : Int) : Prop := ∃ r s, (0 ≤ z - e → IsRoot ((w - e) * (w - e) + 2 * g * (z - e)) r) ∧ (0 ≤ z + e → IsRoot ((w + e) * (w + e) + 2 * g * (z + e)) s) ∧ lo = timeOf (z - e) (w - e) g r ∧ hi = timeOf (z + e) (w + e) g s + 2
theorem box_in_ev (a b x y z u v w g e : Int) (h : NavIn x y z u v w g) (he : 0 ≤ e ∧ e ≤ 2048) :
    ∃ lo hi, SpanOf z w g e lo hi ∧ rightB (bl x u e lo hi) (bl y v e lo hi) (bh x u e lo hi) (bh y v e lo hi) = true ∧
      Ev (fun k => impact_Box.f k a b x y z u v w g e) (bl x u e lo hi, bl y v e lo hi, bh x u e lo hi, bh y v e lo hi, true) := by
  obtain ⟨hm, h1, h2, h3, h4⟩ := h
  obtain ⟨r, s, hr, hs, hev⟩ := box_ev a b x y z u v w g e hm he h1 h2 h3 h4
  have hm' := hm
  unfold May at hm'
  have t1 := timeOf_bounds (z - e) (w - e) g r (by unfold Small; omega) hr
  have t2 := timeOf_bounds (z + e) (w + e) g s (by unfold Small; omega) hs
  have p1 := side_bounds x u e (timeOf (z - e) (w - e) g r) (timeOf (z + e) (w + e) g s + 2) h1 h3 he (by omega) (by omega)
  have p2 := side_bounds y v e (timeOf (z - e) (w - e) g r) (timeOf (z + e) (w + e) g s + 2) h2 h4 he (by omega) (by omega)
  refine ⟨_, _, ⟨r, s, hr, hs, rfl, rfl⟩, ?_, hev⟩
  rw [rightB_iff]; unfold Ok; simp only; omega
theorem land10 (n : Int) : Go.bits .and .i64 n 1023 = n % 1024 := by
  have h127 : (BitVec.ofInt 64 1023).toNat = 2 ^ 10 - 1 := by decide
  have key : (BitVec.ofInt 64 n &&& BitVec.ofInt 64 1023).toNat = (n % ((2 ^ 64 : Nat) : Int)).toNat % 2 ^ 10 := by
    rw [BitVec.toNat_and, BitVec.toNat_ofInt, h127, Nat.and_two_pow_sub_one_eq_mod]
  show IntKind.i64.wrap ((BitVec.ofInt 64 n &&& BitVec.ofInt 64 1023).toNat : Nat) = n % 1024
  rw [key, IntKind.wrap_i64]
  omega
theorem ev_some19 {f : Nat → Option Bool} (h : Ev f true) : ∃ k, f k = some true := by obtain ⟨K, h⟩ := h; exact ⟨K, h K (Nat.le_refl _)⟩
end Go.Proofs.Ytfeekdoakoabeaa.Q
