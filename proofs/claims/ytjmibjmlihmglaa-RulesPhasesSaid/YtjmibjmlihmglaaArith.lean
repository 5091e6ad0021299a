/- Plain arithmetic under the printed functions: wraps, words of 64 bits, products of 128 bits, square roots. -/
import Derived.Test.YtjmibjmlihmglaaGx4
import Derived.Laws.BitsAllLaws
namespace Go.Proofs.Ytjmibjmlihmglaa.Q
open Go.RowKit Go.Proofs.Ytjmibjmlihmglaa.G Go.Proofs.YtjmibjmlihmglaaW.PrintWords Go.Proofs.YtjmibjmlihmglaaW.PrintLast Go.Proofs.YtjmibjmlihmglaaW.PrintMore
theorem w64 {x : Int} (h1 : -9223372036854775808 ≤ x) (h2 : x ≤ 9223372036854775807) : wrap64 x = x := by
  unfold wrap64; omega
theorem u64w (x : Int) : IntKind.u64.wrap x = x % 18446744073709551616 := by simp [IntKind.wrap, IntKind.bits, IntKind.signed]
theorem mask32 (a : Int) (h1 : 0 ≤ a) (h2 : a < 18446744073709551616) : Go.bits .and .u64 a 4294967295 = a % 4294967296 := by
  rw [u64_and a 4294967295 h1 h2 (by decide) (by decide)]
  have : a.toNat &&& (4294967295 : Int).toNat = a.toNat % 4294967296 := Nat.and_two_pow_sub_one_eq_mod a.toNat 32
  rw [this]; omega
theorem mul64_plain (a b : Int) (ha : 0 ≤ a) (ha' : a < 18446744073709551616) (hb : 0 ≤ b) (hb' : b < 18446744073709551616) :
    bits_Mul64.f a b = some (a * b / 18446744073709551616, a * b % 18446744073709551616) := by
  unfold bits_Mul64.f
  simp only [mask32 a ha ha', mask32 b hb hb', u64w]
  have ea : a = 4294967296 * (a / 4294967296) + a % 4294967296 := by omega
  have eb : b = 4294967296 * (b / 4294967296) + b % 4294967296 := by omega
  have eab : a * b = 18446744073709551616 * ((a / 4294967296) * (b / 4294967296)) + 4294967296 * ((a / 4294967296) * (b % 4294967296)) + 4294967296 * ((a % 4294967296) * (b / 4294967296)) + (a % 4294967296) * (b % 4294967296) := by
    conv => lhs; rw [ea, eb]
    grind
  have bound : ∀ x y : Int, 0 ≤ x → x ≤ 4294967295 → 0 ≤ y → y ≤ 4294967295 → 0 ≤ x * y ∧ x * y ≤ 18446744065119617025 := by
    intro x y hx hx' hy hy'
    refine ⟨Int.mul_nonneg hx hy, ?_⟩
    have h1 : x * y ≤ x * 4294967295 := Int.mul_le_mul_of_nonneg_left hy' hx
    omega
  have b11 := bound (a / 4294967296) (b / 4294967296) (by omega) (by omega) (by omega) (by omega)
  have b10 := bound (a / 4294967296) (b % 4294967296) (by omega) (by omega) (by omega) (by omega)
  have b01 := bound (a % 4294967296) (b / 4294967296) (by omega) (by omega) (by omega) (by omega)
  have b00 := bound (a % 4294967296) (b % 4294967296) (by omega) (by omega) (by omega) (by omega)
  rw [eab]
  generalize (a / 4294967296) * (b / 4294967296) = p11 at *
  generalize (a / 4294967296) * (b % 4294967296) = p10 at *
  generalize (a % 4294967296) * (b / 4294967296) = p01 at *
  generalize (a % 4294967296) * (b % 4294967296) = p00 at *
  clear ea eb eab
  have m1 : p11 % 18446744073709551616 = p11 := by omega
  have m2 : p10 % 18446744073709551616 = p10 := by omega
  have m3 : p01 % 18446744073709551616 = p01 := by omega
  have m4 : p00 % 18446744073709551616 = p00 := by omega
  rw [m1, m2, m3, m4]
  have m5 : (p10 + p00 / 4294967296) % 18446744073709551616 = p10 + p00 / 4294967296 := by omega
  rw [m5, mask32 _ (by omega) (by omega)]
  have m6 : ((p10 + p00 / 4294967296) % 4294967296 + p01) % 18446744073709551616 = (p10 + p00 / 4294967296) % 4294967296 + p01 := by omega
  rw [m6]
  congr 2
  omega
end Go.Proofs.Ytjmibjmlihmglaa.Q
