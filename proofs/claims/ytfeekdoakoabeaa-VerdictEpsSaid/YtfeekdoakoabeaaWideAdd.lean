/- Wide sums: the program's sum of two wide numbers, and of two numbers of 64 bits, are the plain sums, or refused. -/
import Derived.Test.YtfeekdoakoabeaaGx5
import Derived.Test.YtfeekdoakoabeaaGx7
import Derived.Test.YtfeekdoakoabeaaArith
import Derived.Test.YtfeekdoakoabeaaWideBase
namespace Go.Proofs.Ytfeekdoakoabeaa.Q
open Go.RowKit Go.Proofs.Ytfeekdoakoabeaa.G Go.Proofs.YtfeekdoakoabeaaW.PrintWords Go.Proofs.YtfeekdoakoabeaaW.PrintLast Go.Proofs.YtfeekdoakoabeaaW.PrintMore
theorem wide_add (a b c d : Int) (ha : Hi a) (hb : Lo b) (hc : Hi c) (hd : Lo d) :
    wide_Wide_Add.f a b c d = some (if -170141183460469231731687303715884105728 ≤ (a + c) * 18446744073709551616 + (b + d) ∧ (a + c) * 18446744073709551616 + (b + d) < 170141183460469231731687303715884105728
      then (((a + c) * 18446744073709551616 + (b + d)) / 18446744073709551616, ((a + c) * 18446744073709551616 + (b + d)) % 18446744073709551616, true) else (0, 0, false)) := by
  obtain ⟨ha1, ha2⟩ := ha
  obtain ⟨hb1, hb2⟩ := hb
  obtain ⟨hc1, hc2⟩ := hc
  obtain ⟨hd1, hd2⟩ := hd
  unfold wide_Wide_Add.f
  rw [add64c_plain b d 0 hb1 hd1 (by decide), add64s_plain b d 0 hb1 hd1 (by decide), if_pos (by omega), u64w, u64w, add64s_plain _ _ _ (by omega) (by omega) (by omega)]
  have hw : wrap64 ((a % 18446744073709551616 + c % 18446744073709551616 + (b + d + 0) / 18446744073709551616) % 18446744073709551616) = wrap64 (a + c + (b + d) / 18446744073709551616) := by
    unfold wrap64; omega
  rw [hw]
  have hs : -9223372036854775808 ≤ wrap64 (a + c + (b + d) / 18446744073709551616) ∧ wrap64 (a + c + (b + d) / 18446744073709551616) ≤ 9223372036854775807 := by unfold wrap64; omega
  have hsg := signs a c _ ha1 ha2 hc1 hc2 hs.1 hs.2
  by_cases hov : -170141183460469231731687303715884105728 ≤ (a + c) * 18446744073709551616 + (b + d) ∧ (a + c) * 18446744073709551616 + (b + d) < 170141183460469231731687303715884105728
  · rw [if_pos hov, if_neg (by rw [hsg]; unfold wrap64; omega), w64 (by omega) (by omega)]
    congr 2
    · omega
    · congr 1; omega
  · rw [if_neg hov, if_pos (by rw [hsg]; unfold wrap64; omega)]
theorem wide_of (a : Int) (ha : Hi a) : wide_Of.f a = some (if a < 0 then -1 else 0, a % 18446744073709551616) := by
  obtain ⟨h1, h2⟩ := ha
  unfold wide_Of.f
  rw [u64w]
  congr 2
  split <;> omega
theorem wide_int (a b : Int) (hb : Lo b) : wide_Wide_Int.f a b = some (if Hi (a * 18446744073709551616 + b) then (a * 18446744073709551616 + b, true) else (0, false)) := by
  obtain ⟨hb1, hb2⟩ := hb
  unfold wide_Wide_Int.f
  have hw : Hi (wrap64 b) := by unfold Hi wrap64; omega
  rw [wide_of _ hw]
  simp only [Option.bind_some]
  by_cases c : Hi (a * 18446744073709551616 + b)
  · rw [if_pos c]
    unfold Hi at c
    have e1 : ((if wrap64 b < 0 then (-1 : Int) else 0) == a) = true := by rw [beq_iff_eq]; unfold wrap64; split <;> omega
    have e2 : (wrap64 b % 18446744073709551616 == b) = true := by rw [beq_iff_eq]; unfold wrap64; omega
    have e3 : wrap64 b = a * 18446744073709551616 + b := by unfold wrap64; omega
    rw [e1, e2]; simp [e3]
  · rw [if_neg c]
    unfold Hi at c
    have e1 : ((if wrap64 b < 0 then (-1 : Int) else 0) == a) = false := by rw [beq_eq_false_iff_ne]; unfold wrap64; split <;> omega
    rw [e1]; simp
theorem fix_told_some (a b : Int) (hb : Lo b) : fix_told.f a b true = some (if Hi (a * 18446744073709551616 + b) then (a * 18446744073709551616 + b, true) else (0, false)) := by
  unfold fix_told.f
  rw [if_pos rfl, wide_int a b hb]
  rfl
theorem fix_add (a b : Int) (ha : Hi a) (hb : Hi b) : fix_Add.f a b = some (if Hi (a + b) then (a + b, true) else (0, false)) := by
  have ha' := ha
  have hb' := hb
  unfold Hi at ha' hb'
  unfold fix_Add.f
  rw [wide_of a ha, wide_of b hb]
  simp only [Option.bind_some]
  rw [wide_add _ _ _ _ (by unfold Hi; split <;> omega) (by unfold Lo; omega) (by unfold Hi; split <;> omega) (by unfold Lo; omega)]
  have e : ((if a < 0 then (-1 : Int) else 0) + (if b < 0 then (-1 : Int) else 0)) * 18446744073709551616 + (a % 18446744073709551616 + b % 18446744073709551616) = a + b := by
    split <;> split <;> omega
  rw [e, if_pos (by omega)]
  simp only [Option.bind_some]
  rw [fix_told_some _ _ (by unfold Lo; omega)]
  have e2 : (a + b) / 18446744073709551616 * 18446744073709551616 + (a + b) % 18446744073709551616 = a + b := by omega
  rw [e2]
  rfl
end Go.Proofs.Ytfeekdoakoabeaa.Q
