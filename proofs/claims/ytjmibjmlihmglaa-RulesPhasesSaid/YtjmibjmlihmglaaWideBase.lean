/- Words of 64 bits: signs, and what is carried. -/
import Derived.Test.YtjmibjmlihmglaaGx0
import Derived.Test.YtjmibjmlihmglaaArith
namespace Go.Proofs.Ytjmibjmlihmglaa.Q
open Go.RowKit Go.Proofs.Ytjmibjmlihmglaa.G Go.Proofs.YtjmibjmlihmglaaW.PrintWords Go.Proofs.YtjmibjmlihmglaaW.PrintLast Go.Proofs.YtjmibjmlihmglaaW.PrintMore
theorem i64_toInt (x : BitVec 64) : IntKind.i64.wrap (x.toNat : Int) = x.toInt := by
  have := x.isLt
  rw [BitVec.toInt_eq_toNat_cond]
  simp [IntKind.wrap, IntKind.bits, IntKind.signed]
  split <;> split <;> omega
theorem xor_i64 (a b : Int) : Go.bits .xor .i64 a b = (BitVec.ofInt 64 a ^^^ BitVec.ofInt 64 b).toInt := i64_toInt _
theorem and_i64 (a b : Int) : Go.bits .and .i64 a b = (BitVec.ofInt 64 a &&& BitVec.ofInt 64 b).toInt := i64_toInt _
theorem toInt_neg (x : BitVec 64) : x.toInt < 0 ↔ x.msb = true := by rw [BitVec.msb_eq_toInt]; simp
theorem msb_ofInt (a : Int) (h1 : -9223372036854775808 ≤ a) (h2 : a ≤ 9223372036854775807) : (BitVec.ofInt 64 a).msb = decide (a < 0) := by
  rw [BitVec.msb_eq_toInt, BitVec.toInt_ofInt]
  congr 2
  rw [Int.bmod_def]
  split <;> omega
theorem signs (a b s : Int) (a1 : -9223372036854775808 ≤ a) (a2 : a ≤ 9223372036854775807) (b1 : -9223372036854775808 ≤ b) (b2 : b ≤ 9223372036854775807) (s1 : -9223372036854775808 ≤ s) (s2 : s ≤ 9223372036854775807) :
    Go.bits .and .i64 (Go.bits .xor .i64 a s) (Go.bits .xor .i64 b s) < 0 ↔ ((a < 0 ↔ ¬ s < 0) ∧ (b < 0 ↔ ¬ s < 0)) := by
  rw [and_i64, xor_i64, xor_i64, BitVec.ofInt_toInt, BitVec.ofInt_toInt, toInt_neg, BitVec.msb_and, BitVec.msb_xor, BitVec.msb_xor, msb_ofInt a a1 a2, msb_ofInt b b1 b2, msb_ofInt s s1 s2]
  by_cases ha : a < 0 <;> by_cases hb : b < 0 <;> by_cases hs : s < 0 <;> simp [ha, hb, hs]
def Hi (x : Int) : Prop := -9223372036854775808 ≤ x ∧ x ≤ 9223372036854775807
def Lo (x : Int) : Prop := 0 ≤ x ∧ x < 18446744073709551616
instance (x : Int) : Decidable (Hi x) := inferInstanceAs (Decidable (_ ∧ _))
instance (x : Int) : Decidable (Lo x) := inferInstanceAs (Decidable (_ ∧ _))
end Go.Proofs.Ytjmibjmlihmglaa.Q
