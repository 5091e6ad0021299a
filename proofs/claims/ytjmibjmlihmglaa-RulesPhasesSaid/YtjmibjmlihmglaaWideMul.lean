/- Wide products and comparisons: the reference's and the program's are the plain ones. -/
import Derived.Test.YtjmibjmlihmglaaGx0
import Derived.Test.YtjmibjmlihmglaaGx12
import Derived.Test.YtjmibjmlihmglaaGx13
import Derived.Test.YtjmibjmlihmglaaGx14
import Derived.Test.YtjmibjmlihmglaaGx4
import Derived.Test.YtjmibjmlihmglaaGx5
import Derived.Test.YtjmibjmlihmglaaArith
import Derived.Test.YtjmibjmlihmglaaWideBase
import Derived.Test.YtjmibjmlihmglaaWide128
namespace Go.Proofs.Ytjmibjmlihmglaa.Q
open Go.RowKit Go.Proofs.Ytjmibjmlihmglaa.G Go.Proofs.YtjmibjmlihmglaaW.PrintWords Go.Proofs.YtjmibjmlihmglaaW.PrintLast Go.Proofs.YtjmibjmlihmglaaW.PrintMore
set_option linter.unusedVariables false
set_option linter.unusedSimpArgs false
theorem not_nat (a : Int) : ((BitVec.ofInt 64 (-1) ^^^ BitVec.ofInt 64 a).toNat : Int) = 18446744073709551615 - a % 18446744073709551616 := by
  have h1 : BitVec.ofInt 64 (-1) = BitVec.allOnes 64 := by decide
  rw [h1, BitVec.allOnes_xor, BitVec.toNat_not, BitVec.toNat_ofInt]
  have h2 : ((2 ^ 64 : Nat) : Int) = 18446744073709551616 := by decide
  rw [h2]
  omega
theorem not_i64 (a : Int) (h : Hi a) : Go.bits .xor .i64 (-1) a = -1 - a := by
  unfold Hi at h
  show IntKind.i64.wrap ((BitVec.ofInt 64 (-1) ^^^ BitVec.ofInt 64 a).toNat : Int) = _
  rw [not_nat, IntKind.wrap_i64]; omega
theorem not_u64 (a : Int) (h : Lo a) : Go.bits .xor .u64 (-1) a = 18446744073709551615 - a := by
  unfold Lo at h
  show IntKind.u64.wrap ((BitVec.ofInt 64 (-1) ^^^ BitVec.ofInt 64 a).toNat : Int) = _
  rw [not_nat, u64w]; omega
theorem flip_pw (x : Int) : Ev (fun k => apogeeref01_Flip.f k (pw x).1 (pw x).2) (pw (-x)) := by
  have h1 := pw_hi x
  have h2 := pw_lo x
  have h1' := h1
  have h2' := h2
  unfold Hi at h1'
  unfold Lo at h2'
  have h := plus_ev (-1 - (pw x).1) (18446744073709551615 - (pw x).2) 0 1 (by unfold Hi; omega) (by unfold Lo; omega) (by decide) (by decide)
  have e : pw ((-1 - (pw x).1) * 18446744073709551616 + (18446744073709551615 - (pw x).2) + (0 * 18446744073709551616 + 1)) = pw (-x) := by
    apply pw_congr; unfold pw wrap64; omega
  rw [e] at h
  refine Ev.congr (f := fun k => (apogeeref01_plus.f k (-1 - (pw x).1) (18446744073709551615 - (pw x).2) 0 1).bind fun bt => some (bt.1, bt.2)) (fun k => ?_) (Ev.bind h (Ev.now _))
  unfold apogeeref01_Flip.f
  rw [not_i64 _ h1, not_u64 _ h2]
theorem ref_mul_loop (a b n : Int) (hn : Lo n) (hb : b = if b < 0 then n - 18446744073709551616 else n) (d : Nat) : ∀ i : Nat, i + d = 64 →
    Ev (fun k => apogeeref01_Mul.l0 k b n i (pw (a * 2 ^ i)).1 (pw (a * 2 ^ i)).2 (pw (a * (n % 2 ^ i))).1 (pw (a * (n % 2 ^ i))).2) (pw (a * b)) := by
  have hn' := hn
  unfold Lo at hn'
  induction d with
  | zero =>
    intro i hi'
    have : i = 64 := by omega
    subst this
    have e : (2 : Int) ^ 64 = 18446744073709551616 := by decide
    rw [e, show n % 18446744073709551616 = n by omega]
    by_cases hneg : b < 0
    · refine Ev.step (f := fun k => (apogeeref01_Flip.f k (pw (a * 18446744073709551616)).1 (pw (a * 18446744073709551616)).2).bind fun bt => (apogeeref01_plus.f k (pw (a * n)).1 (pw (a * n)).2 bt.1 bt.2).bind fun bu => some (bu.1, bu.2)) (fun k => ?_) (Ev.bind (flip_pw _) (Ev.bind (plus_pw _ _) ?_))
      · simp only [apogeeref01_Mul.l0]; rw [if_neg (by decide), if_pos hneg]
      · rw [if_pos hneg] at hb
        have : a * n + -(a * 18446744073709551616) = a * b := by
          rw [hb]; grind
        rw [this]; exact Ev.now _
    · refine Ev.step (f := fun k => some (pw (a * b))) (fun k => ?_) (Ev.now _)
      rw [if_neg hneg] at hb
      simp only [apogeeref01_Mul.l0]; rw [if_neg (by decide), if_neg hneg, hb]
  | succ d ih =>
    intro i hi'
    have g1 : (i : Int) < 64 := by omega
    have g2 : (0 : Int) ≤ i := by omega
    have n3 : i < 64 := by omega
    have w2 : wrap64 ((i : Int) + 1) = ((i + 1 : Nat) : Int) := by rw [w64 (by omega) (by omega)]; rfl
    have nx := ih (i + 1) (by omega)
    clear ih hi'
    have hx : Ev (fun k => apogeeref01_plus.f k (pw (a * 2 ^ i)).1 (pw (a * 2 ^ i)).2 (pw (a * 2 ^ i)).1 (pw (a * 2 ^ i)).2) (pw (a * 2 ^ (i + 1))) := by
      have h := plus_pw (a * 2 ^ i) (a * 2 ^ i)
      have e : a * 2 ^ i + a * 2 ^ i = a * 2 ^ (i + 1) := by rw [pow_succ2]; grind
      rw [e] at h; exact h
    have hm := mod_succ n i
    have hbit : Go.bits .and .u64 (shr .u64 n i) 1 = bit n i := by
      rw [shr_u64 n i (by omega)]
      have p3 : 0 ≤ n / 2 ^ i := Int.ediv_nonneg hn'.1 (Int.le_of_lt (pow_pos2 i))
      have p4 : n / 2 ^ i ≤ n := Int.ediv_le_self _ hn'.1
      rw [and1 _ p3 (by omega)]; rfl
    rcases bit_01 n i with b1 | b1
    · rw [b1] at hm hbit
      rw [Int.mul_zero, Int.add_zero] at hm
      rw [hm] at nx
      refine Ev.step (f := fun k => (apogeeref01_plus.f k (pw (a * 2 ^ i)).1 (pw (a * 2 ^ i)).2 (pw (a * 2 ^ i)).1 (pw (a * 2 ^ i)).2).bind fun bt => apogeeref01_Mul.l0 k b n ((i + 1 : Nat) : Int) bt.1 bt.2 (pw (a * (n % 2 ^ i))).1 (pw (a * (n % 2 ^ i))).2) (fun k => ?_) (Ev.bind hx nx)
      simp only [apogeeref01_Mul.l0]
      rw [if_pos g1, if_pos g2, hbit, if_neg (by decide), w2]
    · rw [b1] at hm hbit
      rw [Int.mul_one] at hm
      rw [hm] at nx
      have ho : Ev (fun k => apogeeref01_plus.f k (pw (a * (n % 2 ^ i))).1 (pw (a * (n % 2 ^ i))).2 (pw (a * 2 ^ i)).1 (pw (a * 2 ^ i)).2) (pw (a * (n % 2 ^ i + 2 ^ i))) := by
        have h := plus_pw (a * (n % 2 ^ i)) (a * 2 ^ i)
        rw [← Int.mul_add] at h; exact h
      refine Ev.step (f := fun k => (apogeeref01_plus.f k (pw (a * (n % 2 ^ i))).1 (pw (a * (n % 2 ^ i))).2 (pw (a * 2 ^ i)).1 (pw (a * 2 ^ i)).2).bind fun bo => (apogeeref01_plus.f k (pw (a * 2 ^ i)).1 (pw (a * 2 ^ i)).2 (pw (a * 2 ^ i)).1 (pw (a * 2 ^ i)).2).bind fun bt => apogeeref01_Mul.l0 k b n ((i + 1 : Nat) : Int) bt.1 bt.2 bo.1 bo.2) (fun k => ?_) (Ev.bind ho (Ev.bind hx nx))
      simp only [apogeeref01_Mul.l0]
      rw [if_pos g1, if_pos g2, hbit, if_pos rfl, w2]
theorem ref_mul_ev (a b : Int) (ha : Hi a) (hb : Hi b) : Ev (fun k => apogeeref01_Mul.f k a b) (pw (a * b)) := by
  have ha' := ha
  have hb' := hb
  unfold Hi at ha' hb'
  have h := ref_mul_loop a b (b % 18446744073709551616) (by unfold Lo; omega) (by split <;> omega) 64 0 rfl
  rw [show (2 : Int) ^ 0 = 1 from rfl, Int.emod_one, Int.mul_one, Int.mul_zero] at h
  have ho : apogeeref01_Of.f a = some (pw a) := by
    unfold apogeeref01_Of.f pw
    rw [u64w]
    by_cases c : a < 0
    · rw [if_pos c, show a / 18446744073709551616 = -1 by omega, w64 (by decide) (by decide)]
    · rw [if_neg c, show a / 18446744073709551616 = 0 by omega, w64 (by decide) (by decide)]
  refine Ev.congr (f := fun k => apogeeref01_Mul.l0 k b (b % 18446744073709551616) 0 (pw a).1 (pw a).2 0 0) (fun k => ?_) ?_
  · unfold apogeeref01_Mul.f; rw [ho, u64w]; rfl
  · have p0 : pw 0 = (0, 0) := by
      unfold pw
      rw [show (0 : Int) / 18446744073709551616 = 0 from rfl, w64 (by decide) (by decide)]; rfl
    rw [p0] at h
    exact h
theorem mul_plain (a b : Int) (ha : Hi a) (hb : Hi b) : wide_Mul.f a b = some (pw (a * b)) := by
  unfold Hi at ha hb
  unfold wide_Mul.f
  rw [u64w, u64w, mul64_plain _ _ (by omega) (by omega) (by omega) (by omega)]
  simp only [Option.bind_some, u64w]
  have ea : a % 18446744073709551616 = if a < 0 then a + 18446744073709551616 else a := by split <;> omega
  have eb : b % 18446744073709551616 = if b < 0 then b + 18446744073709551616 else b := by split <;> omega
  unfold pw
  by_cases ca : a < 0
  · by_cases cb : b < 0
    · rw [if_pos ca, if_pos cb]
      rw [if_pos ca] at ea; rw [if_pos cb] at eb
      rw [ea, eb]
      have e : (a + 18446744073709551616) * (b + 18446744073709551616) = a * b + 18446744073709551616 * (a + b + 18446744073709551616) := by grind
      rw [e]
      generalize a * b = p
      congr 2
      · unfold wrap64; omega
      · omega
    · rw [if_pos ca, if_neg cb]
      rw [if_pos ca] at ea; rw [if_neg cb] at eb
      rw [ea, eb]
      have e : (a + 18446744073709551616) * b = a * b + 18446744073709551616 * b := by grind
      rw [e]
      generalize a * b = p
      congr 2
      · unfold wrap64; omega
      · omega
  · by_cases cb : b < 0
    · rw [if_neg ca, if_pos cb]
      rw [if_neg ca] at ea; rw [if_pos cb] at eb
      rw [ea, eb]
      have e : a * (b + 18446744073709551616) = a * b + 18446744073709551616 * a := by grind
      rw [e]
      generalize a * b = p
      congr 2
      · unfold wrap64; omega
      · omega
    · rw [if_neg ca, if_neg cb]
      rw [if_neg ca] at ea; rw [if_neg cb] at eb
      rw [ea, eb]
def sg (x y : Int) : Int := if x < y then -1 else if x = y then 0 else 1
def Wd (x : Int) : Prop := -170141183460469231731687303715884105728 ≤ x ∧ x < 170141183460469231731687303715884105728
theorem ref_cmp_ev (x y : Int) (hx : Wd x) (hy : Wd y) : Ev (fun k => apogeeref01_Cmp.f k (pw x).1 (pw x).2 (pw y).1 (pw y).2) (sg x y) := by
  unfold Wd at hx hy
  have e1 : (pw x).1 = x / 18446744073709551616 := w64 (by omega) (by omega)
  have e2 : (pw y).1 = y / 18446744073709551616 := w64 (by omega) (by omega)
  have e3 : (pw x).2 = x % 18446744073709551616 := rfl
  have e4 : (pw y).2 = y % 18446744073709551616 := rfl
  rw [e1, e2, e3, e4]
  refine Ev.of (fun k => apogeeref01_Cmp.mono _ _ _ _ k) (k := 1) ?_
  unfold apogeeref01_Cmp.f sg
  simp only [apogeeref01_Cmp.j0]
  by_cases c1 : x / 18446744073709551616 < y / 18446744073709551616
  · rw [if_pos c1, if_pos trivial, if_pos (show x < y by omega)]
  · rw [if_neg c1]
    by_cases c2 : x / 18446744073709551616 = y / 18446744073709551616
    · rw [if_pos c2]
      by_cases c3 : x % 18446744073709551616 < y % 18446744073709551616
      · rw [if_pos (decide_eq_true c3), if_pos (show x < y by omega)]
      · rw [if_neg (by simpa using c3), if_neg (show ¬ x < y by omega), c2]
        by_cases c4 : x % 18446744073709551616 = y % 18446744073709551616
        · rw [if_pos (by simp [c4]), if_pos (show x = y by omega)]
        · rw [if_neg (by simp [c4]), if_neg (show ¬ x = y by omega)]
    · rw [if_neg c2, if_neg (by decide), if_neg (by simp [c2]), if_neg (show ¬ x < y by omega), if_neg (show ¬ x = y by omega)]
theorem cmp_compare (a b : Int) : cmp_Compare_int64.f a b = some (sg a b) := by
  unfold cmp_Compare_int64.f cmp_isNaN_int64.f sg
  simp only [Option.bind_some, bne_self_eq_false]
  by_cases c1 : a < b
  · simp [c1]
  · by_cases c2 : a = b
    · subst c2; simp
    · have c3 : b < a := by omega
      simp [c1, c2, c3]
theorem cmp_compare_u (a b : Int) : cmp_Compare_uint64.f a b = some (sg a b) := by
  unfold cmp_Compare_uint64.f cmp_isNaN_uint64.f sg
  simp only [Option.bind_some, bne_self_eq_false]
  by_cases c1 : a < b
  · simp [c1]
  · by_cases c2 : a = b
    · subst c2; simp
    · have c3 : b < a := by omega
      simp [c1, c2, c3]
theorem cmp_ev (x y : Int) (hx : Wd x) (hy : Wd y) : Ev (fun k => wide_Wide_Cmp.f k (pw x).1 (pw x).2 (pw y).1 (pw y).2) (sg x y) := by
  unfold Wd at hx hy
  have e1 : (pw x).1 = x / 18446744073709551616 := w64 (by omega) (by omega)
  have e2 : (pw y).1 = y / 18446744073709551616 := w64 (by omega) (by omega)
  have e3 : (pw x).2 = x % 18446744073709551616 := rfl
  have e4 : (pw y).2 = y % 18446744073709551616 := rfl
  rw [e1, e2, e3, e4]
  have ho : ∀ p q : Int, cmp_Or_int.f 3 [p, q] = some (if p = 0 then q else p) := by
    intro p q
    have w1 : wrap64 1 = 1 := w64 (by decide) (by decide)
    have w2 : wrap64 2 = 2 := w64 (by decide) (by decide)
    unfold cmp_Or_int.f
    simp only [cmp_Or_int.l0]
    by_cases cp : p = 0
    · by_cases cq : q = 0
      · simp [cp, cq, rd, w1, w2]
      · simp [cp, cq, rd, w1, w2]
    · simp [cp, rd]
  refine Ev.of (fun k => wide_Wide_Cmp.mono _ _ _ _ k) (k := 3) ?_
  unfold wide_Wide_Cmp.f
  rw [cmp_compare, cmp_compare_u]
  simp only [Option.bind_some]
  rw [ho]
  simp only [Option.bind_some]
  congr 1
  unfold sg
  by_cases c1 : x / 18446744073709551616 < y / 18446744073709551616
  · rw [if_pos c1, if_neg (by decide), if_pos (by omega)]
  · rw [if_neg c1]
    by_cases c2 : x / 18446744073709551616 = y / 18446744073709551616
    · rw [if_pos c2, if_pos rfl]
      by_cases c3 : x % 18446744073709551616 < y % 18446744073709551616
      · rw [if_pos c3, if_pos (by omega)]
      · rw [if_neg c3, if_neg (show ¬ x < y by omega)]
        by_cases c4 : x % 18446744073709551616 = y % 18446744073709551616
        · rw [if_pos c4, if_pos (by omega)]
        · rw [if_neg c4, if_neg (by omega)]
    · rw [if_neg c2, if_neg (by decide), if_neg (by omega), if_neg (by omega)]
end Go.Proofs.Ytjmibjmlihmglaa.Q
