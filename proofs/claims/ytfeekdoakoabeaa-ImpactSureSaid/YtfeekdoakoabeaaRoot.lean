/- Square roots, rounded down: the program's, bit by bit, and the reference's, by halves. -/
import Derived.Test.YtfeekdoakoabeaaGx26
import Derived.Test.YtfeekdoakoabeaaGx5
import Derived.Test.YtfeekdoakoabeaaArith
namespace Go.Proofs.Ytfeekdoakoabeaa.Q
open Go.RowKit Go.Proofs.Ytfeekdoakoabeaa.G Go.Proofs.YtfeekdoakoabeaaW.PrintWords Go.Proofs.YtfeekdoakoabeaaW.PrintLast Go.Proofs.YtfeekdoakoabeaaW.PrintMore
def IsRoot (n r : Int) : Prop := 0 ≤ r ∧ r * r ≤ n ∧ n < (r + 1) * (r + 1)
theorem above_plain (s hi lo : Int) (hs : 0 ≤ s) (hs' : s < 18446744073709551616) (h1 : 0 ≤ hi) (h1' : hi < 9223372036854775808) (h2 : 0 ≤ lo) (h2' : lo < 18446744073709551616) :
    wide_above.f s hi lo = some (decide (s * s > hi * 18446744073709551616 + lo)) := by
  unfold wide_above.f
  rw [mul64_plain s s hs hs' hs hs']
  simp only [Option.bind_some, u64id h1 (by omega)]
  have hp : 0 ≤ s * s := Int.mul_nonneg hs hs
  generalize s * s = p at *
  by_cases c1 : p / 18446744073709551616 > hi
  · rw [if_pos c1]; congr 1; symm; apply decide_eq_true; omega
  · rw [if_neg c1]
    by_cases c2 : p / 18446744073709551616 = hi
    · rw [if_pos c2]; congr 1; apply decide_eq_decide.mpr; omega
    · rw [if_neg c2]; congr 1; symm; apply decide_eq_false; omega
theorem sq_lt {a b : Int} (ha : 0 ≤ a) (h : a * a < b * b) (hb : 0 ≤ b) : a < b := by
  apply Int.not_le.mp; intro hle
  have := Int.mul_le_mul hle hle hb ha
  omega
theorem sqrt_loop (n hi lo : Int) (hn : n = hi * 18446744073709551616 + lo) (h1 : 0 ≤ hi) (h1' : hi < 9223372036854775808) (h2 : 0 ≤ lo) (h2' : lo < 18446744073709551616) (j : Nat) :
    ∀ s : Int, 0 ≤ s → s % 2 ^ (j + 1) = 0 → s + 2 ^ (j + 1) ≤ 18446744073709551616 → s * s ≤ n → n < (s + 2 ^ (j + 1)) * (s + 2 ^ (j + 1)) →
      ∃ r, IsRoot n r ∧ r < 18446744073709551616 ∧ Ev (fun k => wide_Wide_Sqrt.l0 k s (2 ^ j) hi lo) (r, true) := by
  induction j with
  | zero =>
    intro s hs hd hlt hsn hns
    have e2 : (2 : Int) ^ (0 + 1) = 2 := by decide
    rw [e2] at hd hlt hns
    have ho := or_add s 1 0 (by decide) hs (by rw [e2]; exact hd) (by omega)
    have ha := above_plain (s + 1) hi lo (by omega) (by omega) h1 h1' h2 h2'
    by_cases c : (s + 1) * (s + 1) > hi * 18446744073709551616 + lo
    · refine ⟨s, ⟨hs, hsn, by omega⟩, by omega, Ev.step (f := fun k => wide_Wide_Sqrt.l0 k s 0 hi lo) (fun k => ?_) (Ev.step (f := fun k => some (s, true)) (fun k => ?_) (Ev.now _))⟩
      · simp only [wide_Wide_Sqrt.l0]
        rw [if_pos (by decide), show ((2 : Int) ^ 0) = 1 from rfl, ho, ha]
        simp only [Option.bind_some, decide_eq_true c, if_true]
        rfl
      · simp only [wide_Wide_Sqrt.l0]; rw [if_neg (by decide)]
    · refine ⟨s + 1, ⟨by omega, by omega, by have : s + 1 + 1 = s + 2 := by omega
                                             rw [this]; exact hns⟩, by omega, Ev.step (f := fun k => wide_Wide_Sqrt.l0 k (s + 1) 0 hi lo) (fun k => ?_) (Ev.step (f := fun k => some (s + 1, true)) (fun k => ?_) (Ev.now _))⟩
      · simp only [wide_Wide_Sqrt.l0]
        rw [if_pos (by decide), show ((2 : Int) ^ 0) = 1 from rfl, ho, ha]
        simp only [Option.bind_some, decide_eq_false c]
        rfl
      · simp only [wide_Wide_Sqrt.l0]; rw [if_neg (by decide)]
  | succ j ih =>
    intro s hs hd hlt hsn hns
    have hp : (2 : Int) ^ (j + 1 + 1) = 2 * 2 ^ (j + 1) := by rw [Int.pow_succ 2 (j + 1)]; omega
    have hb : (0 : Int) < 2 ^ (j + 1) := Int.pow_pos (by decide)
    have ho := or_add s (2 ^ (j + 1)) (j + 1) rfl hs hd (by omega)
    have ha := above_plain (s + 2 ^ (j + 1)) hi lo (by omega) (by omega) h1 h1' h2 h2'
    have hdv : s % 2 ^ (j + 1) = 0 := by
      rw [hp] at hd
      exact Int.emod_eq_zero_of_dvd (Int.dvd_trans ⟨2, by omega⟩ (Int.dvd_of_emod_eq_zero hd))
    have hhalf : (2 : Int) ^ (j + 1) / 2 = 2 ^ j := by rw [Int.pow_succ]; omega
    by_cases c : (s + 2 ^ (j + 1)) * (s + 2 ^ (j + 1)) > hi * 18446744073709551616 + lo
    · obtain ⟨r, hr, hr', he⟩ := ih s hs hdv (by omega) hsn (by omega)
      refine ⟨r, hr, hr', Ev.step (fun k => ?_) he⟩
      simp only [wide_Wide_Sqrt.l0]
      rw [if_pos hb, ho, ha]
      simp only [Option.bind_some, decide_eq_true c, if_true, hhalf]
    · have hdv' : (s + 2 ^ (j + 1)) % 2 ^ (j + 1) = 0 := by rw [Int.add_emod_right]; exact hdv
      obtain ⟨r, hr, hr', he⟩ := ih (s + 2 ^ (j + 1)) (by omega) hdv' (by omega) (by omega) (by
        have : s + 2 ^ (j + 1) + 2 ^ (j + 1) = s + 2 ^ (j + 1 + 1) := by omega
        rw [this]; exact hns)
      refine ⟨r, hr, hr', Ev.step (fun k => ?_) he⟩
      simp only [wide_Wide_Sqrt.l0]
      rw [if_pos hb, ho, ha]
      simp only [Option.bind_some, decide_eq_false c, hhalf]
      rfl
theorem fix_sqrt_ev (n : Int) (h1 : 0 ≤ n) (h2 : n < 9223372036854775808) :
    ∃ r, IsRoot n r ∧ Ev (fun k => fix_Sqrt.f k n) (r, true) := by
  obtain ⟨r, hr, hr', he⟩ := sqrt_loop n 0 n (by omega) (by decide) (by decide) h1 (by omega) 63 0 (by decide) (by decide) (by decide) (by simpa using h1) (by
    have : ((0 : Int) + 2 ^ (63 + 1)) * (0 + 2 ^ (63 + 1)) = 340282366920938463463374607431768211456 := by decide
    rw [this]; omega)
  refine ⟨r, hr, ?_⟩
  have hr32 : r < 4294967296 := by
    apply Int.not_le.mp; intro h
    have := Int.mul_le_mul h h (by decide) hr.1
    have := hr.2.1
    omega
  have e1 : wide_Of.f n = some (0, n) := by
    unfold wide_Of.f; rw [u64id h1 (by omega)]; congr 2; omega
  have hs : Ev (fun k => wide_Wide_Sqrt.f k 0 n) (r, true) := by
    refine Ev.congr (f := fun k => wide_Wide_Sqrt.l0 k 0 (2 ^ 63) 0 n) (fun k => ?_) he
    unfold wide_Wide_Sqrt.f; rw [if_neg (by decide)]; rfl
  have hroot : Ev (fun k => fix_root.f k 0 n true) (r, true) := by
    refine Ev.congr (f := fun k => (wide_Wide_Sqrt.f k 0 n).bind fun b => (if b.2 = true then (if b.1 > 9223372036854775807 then (some (0, false)) else (some (wrap64 (b.1), true))) else (some (0, false)))) (fun k => ?_) (Ev.bind hs ?_)
    · unfold fix_root.f; rw [if_pos rfl]
    · refine Ev.congr (f := fun _ => some (r, true)) (fun k => ?_) (Ev.now _)
      have := hr.1
      show (if true = true then (if r > 9223372036854775807 then (some (0, false)) else (some (wrap64 r, true))) else (some (0, false))) = _
      rw [if_pos rfl, if_neg (by omega), w64 (by omega) (by omega)]
  refine Ev.congr (f := fun k => (fix_root.f k 0 n true).bind fun b => some (b.1, b.2)) (fun k => ?_) (Ev.bind hroot (Ev.now _))
  unfold fix_Sqrt.f; rw [e1]; rfl
theorem ref_root_loop (n : Int) (d : Nat) : ∀ lo hi : Int, 0 ≤ lo → lo < hi → hi ≤ 2147483648 → (hi - lo).toNat ≤ d → lo * lo ≤ n → n < hi * hi →
    ∃ r, IsRoot n r ∧ Ev (fun k => apogeeref17_root.l0 k n lo hi) r := by
  induction d with
  | zero => intro lo hi _ _ _ _; omega
  | succ d ih =>
    intro lo hi h0 hlt hhi hd hl hh
    have e0 : wrap64 (hi - lo) = hi - lo := w64 (by omega) (by omega)
    by_cases c : hi - lo > 1
    · have e1 : wrap64 (Int.tdiv (hi - lo) 2) = (hi - lo) / 2 := by rw [Int.tdiv_eq_ediv_of_nonneg (by omega)]; exact w64 (by omega) (by omega)
      have e2 : wrap64 (lo + (hi - lo) / 2) = lo + (hi - lo) / 2 := w64 (by omega) (by omega)
      have hm : 0 ≤ lo + (hi - lo) / 2 ∧ lo + (hi - lo) / 2 ≤ 2147483648 := by omega
      have hmm : (lo + (hi - lo) / 2) * (lo + (hi - lo) / 2) ≤ 2147483648 * 2147483648 := Int.mul_le_mul hm.2 hm.2 hm.1 (by decide)
      have hm0 := Int.mul_nonneg hm.1 hm.1
      have e3 : wrap64 ((lo + (hi - lo) / 2) * (lo + (hi - lo) / 2)) = (lo + (hi - lo) / 2) * (lo + (hi - lo) / 2) := w64 (by omega) (by omega)
      by_cases c2 : (lo + (hi - lo) / 2) * (lo + (hi - lo) / 2) ≤ n
      · obtain ⟨r, hr, he⟩ := ih (lo + (hi - lo) / 2) hi (by omega) (by omega) hhi (by omega) c2 hh
        refine ⟨r, hr, Ev.step (fun k => ?_) he⟩
        simp only [apogeeref17_root.l0]
        rw [e0, if_pos c, e1, e2, e3, if_pos c2]
      · obtain ⟨r, hr, he⟩ := ih lo (lo + (hi - lo) / 2) (by omega) (by omega) (by omega) (by omega) hl (by omega)
        refine ⟨r, hr, Ev.step (fun k => ?_) he⟩
        simp only [apogeeref17_root.l0]
        rw [e0, if_pos c, e1, e2, e3, if_neg c2]
    · have : hi = lo + 1 := by omega
      subst this
      refine ⟨lo, ⟨h0, hl, hh⟩, Ev.step (f := fun _ => some lo) (fun k => ?_) (Ev.now _)⟩
      simp only [apogeeref17_root.l0]
      rw [e0, if_neg c]
theorem ref_root_ev (n : Int) (h1 : 0 ≤ n) (h2 : n < 4611686018427387904) : ∃ r, IsRoot n r ∧ Ev (fun k => apogeeref17_root.f k n) r := by
  obtain ⟨r, hr, he⟩ := ref_root_loop n 2147483648 0 2147483648 (by decide) (by decide) (by decide) (by decide) (by simpa using h1) (by omega)
  exact ⟨r, hr, Ev.congr (fun k => rfl) he⟩
end Go.Proofs.Ytfeekdoakoabeaa.Q
