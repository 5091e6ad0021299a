-- Written by a program of this session out of the translation; Lean checks it.
import Derived.Test.YtjmibjmlihmglaaGx0
import Derived.ChangeKeysEq
namespace Go.Proofs.Ytjmibjmlihmglaa.G
open Go.RowKit Go.Proofs.YtjmibjmlihmglaaW.PrintWords Go.Proofs.YtjmibjmlihmglaaW.PrintLast Go.Proofs.YtjmibjmlihmglaaW.PrintMore
attribute [local go_sem] max2_int min2_int max_two min_two max_three min_three max_four min_four   -- for this text's walks alone
set_option linter.unusedVariables false
set_option linter.unusedSimpArgs false

theorem eqA56 (d : Nat) (w : World) (x0 y0 : Bool) (x1 y1 : Bool) (x2 y2 : Bool) (x3 y3 : Bool) :
  (Op.equalIn (d + 2) 56 (.agg #[.bool x0, .bool x1, .bool x2, .bool x3]) (.agg #[.bool y0, .bool y1, .bool y2, .bool y3])).run Try.prog w = .ok (x0 == y0 && (x1 == y1 && (x2 == y2 && (x3 == y3)))) w := by
 obtain ⟨i_, hi_⟩ : ∃ i, Try.prog.info? 4 = some i := Option.isSome_iff_exists.mp (by kernel_rfl)
 rw [run_equalIn_array w (d + 1) _ _ Try.underlying56 hi_, show Try.prog.cellsOf 4 = 1 from by kernel_rfl]
 simp only [show List.range 4 = [0, 1, 2, 3] from rfl, Op.eqItems]
 go_simp
 cases x0 <;> cases y0 <;> cases x1 <;> cases y1 <;> cases x2 <;> cases y2 <;> cases x3 <;> cases y3 <;> rfl
end Go.Proofs.Ytjmibjmlihmglaa.G
