/- Differences of wide numbers, and of numbers that fit. -/
import Derived.Test.YtfeekdoakoabeaaGx0
import Derived.Test.YtfeekdoakoabeaaGx5
import Derived.Test.YtfeekdoakoabeaaGx7
import Derived.Test.YtfeekdoakoabeaaArith
import Derived.Test.YtfeekdoakoabeaaWideBase
import Derived.Test.YtfeekdoakoabeaaWideAdd
import Derived.Test.YtfeekdoakoabeaaWide128
import Derived.Test.YtfeekdoakoabeaaWideMul
namespace Go.Proofs.Ytfeekdoakoabeaa.Q
open Go.RowKit Go.Proofs.Ytfeekdoakoabeaa.G Go.Proofs.YtfeekdoakoabeaaW.PrintWords Go.Proofs.YtfeekdoakoabeaaW.PrintLast Go.Proofs.YtfeekdoakoabeaaW.PrintMore
set_option linter.unusedVariables false
set_option linter.unusedSimpArgs false
theorem pw1 {x : Int} (h : Wd x) : (pw x).1 = x / 18446744073709551616 := by unfold Wd at h; exact w64 (by omega) (by omega)
theorem sub64c_plain (x y : Int) (hx : 0 ≤ x) (hy : 0 ≤ y) : sub64c x y 0 = if x < y then 1 else 0 := by
  unfold sub64c; by_cases c : x < y
  · rw [if_pos c, if_pos (by omega)]; rfl
  · rw [if_neg c, if_neg (by omega)]; rfl
theorem sub64s_plain (x y b : Int) (hx : 0 ≤ x) (hy : 0 ≤ y) (hy' : y < 18446744073709551616) (hb : 0 ≤ b) (hb' : b ≤ 1) (hxy : 0 ≤ x + 18446744073709551616 - y - b) : sub64s x y b = (x - y - b) % 18446744073709551616 := by
  unfold sub64s; rw [Int.ofNat_eq_natCast]; omega
theorem signs2 (a c s : Int) (a1 : -9223372036854775808 ≤ a) (a2 : a ≤ 9223372036854775807) (c1 : -9223372036854775808 ≤ c) (c2 : c ≤ 9223372036854775807) (s1 : -9223372036854775808 ≤ s) (s2 : s ≤ 9223372036854775807) :
    Go.bits .and .i64 (Go.bits .xor .i64 a c) (Go.bits .xor .i64 a s) < 0 ↔ ((a < 0 ↔ ¬ c < 0) ∧ (a < 0 ↔ ¬ s < 0)) := by
  rw [and_i64, xor_i64, xor_i64, BitVec.ofInt_toInt, BitVec.ofInt_toInt, toInt_neg, BitVec.msb_and, BitVec.msb_xor, BitVec.msb_xor, msb_ofInt a a1 a2, msb_ofInt c c1 c2, msb_ofInt s s1 s2]
  by_cases ha : a < 0 <;> by_cases hc : c < 0 <;> by_cases hs : s < 0 <;> simp [ha, hc, hs]
theorem sub_ok (x y : Int) (hx : Wd x) (hy : Wd y) (hs : Wd (x - y)) : wide_Wide_Sub.f (pw x).1 (pw x).2 (pw y).1 (pw y).2 = some ((pw (x - y)).1, (pw (x - y)).2, true) := by
  rw [pw1 hx, pw1 hy, pw1 hs]
  have e2 : ∀ z : Int, (pw z).2 = z % 18446744073709551616 := fun z => rfl
  rw [e2, e2, e2]
  unfold Wd at hx hy hs
  unfold wide_Wide_Sub.f
  rw [sub64c_plain _ _ (by omega) (by omega), sub64s_plain (x % 18446744073709551616) (y % 18446744073709551616) 0 (by omega) (by omega) (by omega) (by omega) (by omega) (by omega)]
  have hb : 0 ≤ (if x % 18446744073709551616 < y % 18446744073709551616 then (1 : Int) else 0) ∧ (if x % 18446744073709551616 < y % 18446744073709551616 then (1 : Int) else 0) ≤ 1 := by split <;> omega
  rw [if_pos hb.2, u64w, u64w, sub64s_plain _ _ _ (by omega) (by omega) (by omega) hb.1 hb.2 (by omega)]
  have hw : wrap64 ((x / 18446744073709551616 % 18446744073709551616 - y / 18446744073709551616 % 18446744073709551616 - (if x % 18446744073709551616 < y % 18446744073709551616 then (1 : Int) else 0)) % 18446744073709551616) = (x - y) / 18446744073709551616 := by
    by_cases c : x % 18446744073709551616 < y % 18446744073709551616
    · rw [if_pos c]; unfold wrap64; omega
    · rw [if_neg c]; unfold wrap64; omega
  rw [hw, if_neg]
  · congr 2; congr 1; omega
  · rw [signs2 _ _ _ (by omega) (by omega) (by omega) (by omega) (by omega) (by omega)]; omega
theorem of_pw (a : Int) (ha : Hi a) : wide_Of.f a = some ((pw a).1, (pw a).2) := by
  rw [wide_of a ha]
  unfold Hi at ha
  rw [pw1 (by unfold Wd; omega)]
  have e : (if a < 0 then (-1 : Int) else 0) = a / 18446744073709551616 := by split <;> omega
  rw [e]; rfl
theorem told_pw (a : Int) (ha : Hi a) : fix_told.f (pw a).1 (pw a).2 true = some (a, true) := by
  have h := ha
  unfold Hi at h
  rw [fix_told_some _ _ (pw_lo a), pw1 (by unfold Wd; omega)]
  have e : a / 18446744073709551616 * 18446744073709551616 + (pw a).2 = a := by unfold pw; simp only; omega
  rw [e, if_pos ha]
theorem fix_sub (a b : Int) (ha : Hi a) (hb : Hi b) (hab : Hi (a - b)) : fix_Sub.f a b = some (a - b, true) := by
  have h1 := ha; have h2 := hb; have h3 := hab
  unfold Hi at h1 h2 h3
  unfold fix_Sub.f
  rw [of_pw a ha, of_pw b hb]
  simp only [Option.bind_some]
  rw [sub_ok a b (by unfold Wd; omega) (by unfold Wd; omega) (by unfold Wd; omega)]
  simp only [Option.bind_some]
  rw [told_pw _ hab]; rfl
theorem fix_abs (a : Int) (h1 : -9223372036854775807 ≤ a) (h2 : a ≤ 9223372036854775807) : fix_Abs.f a = some (max a (-a), true) := by
  have ha : Hi a := by unfold Hi; omega
  unfold fix_Abs.f wide_Wide_Neg.f
  by_cases c : a < 0
  · rw [if_pos c, of_pw a ha]
    have e := sub_ok 0 a (by unfold Wd; omega) (by unfold Wd; omega) (by unfold Wd; omega)
    rw [show (pw 0).1 = 0 by decide +kernel, show (pw 0).2 = 0 by decide +kernel, Int.zero_sub] at e
    simp only [Option.bind_some]
    rw [e]
    simp only [Option.bind_some]
    rw [told_pw _ (by unfold Hi; omega)]
    simp only [Option.bind_some]
    congr 2; omega
  · rw [if_neg c]; congr 2; omega
end Go.Proofs.Ytfeekdoakoabeaa.Q
