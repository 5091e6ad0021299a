/- Wide numbers of 128 bits: the reference's sums and products, bit by bit, and the program's products, are the plain ones modulo 2^128. -/
import Derived.Test.YtjmibjmlihmglaaGx12
import Derived.Test.YtjmibjmlihmglaaGx13
import Derived.Test.YtjmibjmlihmglaaArith
import Derived.Test.YtjmibjmlihmglaaWideBase
namespace Go.Proofs.Ytjmibjmlihmglaa.Q
open Go.RowKit Go.Proofs.Ytjmibjmlihmglaa.G Go.Proofs.YtjmibjmlihmglaaW.PrintWords Go.Proofs.YtjmibjmlihmglaaW.PrintLast Go.Proofs.YtjmibjmlihmglaaW.PrintMore
set_option linter.unusedVariables false
def pw (x : Int) : Int × Int := (wrap64 (x / 18446744073709551616), x % 18446744073709551616)
theorem pw_congr {x y : Int} (h : x % 340282366920938463463374607431768211456 = y % 340282366920938463463374607431768211456) : pw x = pw y := by
  unfold pw wrap64
  congr 1 <;> omega
theorem pw_hi (x : Int) : Hi (pw x).1 := by unfold Hi pw wrap64; omega
theorem pw_lo (x : Int) : Lo (pw x).2 := by unfold Lo pw; omega
theorem pow_succ2 (i : Nat) : (2 : Int) ^ (i + 1) = 2 * 2 ^ i := by rw [Int.pow_succ]; omega
theorem pow_pos2 (i : Nat) : (0 : Int) < 2 ^ i := Int.pow_pos (by decide)
theorem pow_le63 {i : Nat} (h : i < 64) : (2 : Int) ^ i ≤ 9223372036854775808 := by
  have : (2 : Nat) ^ i ≤ 2 ^ 63 := Nat.pow_le_pow_right (by decide) (by omega)
  have h2 : ((2 ^ i : Nat) : Int) ≤ ((2 ^ 63 : Nat) : Int) := Int.ofNat_le.mpr this
  simpa using h2
def bit (x : Int) (i : Nat) : Int := x / 2 ^ i % 2
theorem bit_01 (x : Int) (i : Nat) : bit x i = 0 ∨ bit x i = 1 := by unfold bit; omega
theorem mod_succ (x : Int) (i : Nat) : x % 2 ^ (i + 1) = x % 2 ^ i + 2 ^ i * bit x i := by
  unfold bit
  have p1 := pow_pos2 i
  have m1 : 0 ≤ x % 2 ^ i := Int.emod_nonneg _ (by omega)
  have m2 : x % 2 ^ i < 2 ^ i := Int.emod_lt_of_pos _ p1
  have hx := Int.mul_ediv_add_emod x (2 ^ i)
  have hq := Int.mul_ediv_add_emod (x / 2 ^ i) 2
  generalize x / 2 ^ i / 2 = h at *
  have e : x = (x % 2 ^ i + 2 ^ i * (x / 2 ^ i % 2)) + 2 ^ (i + 1) * h := by rw [pow_succ2]; grind
  have hb : x / 2 ^ i % 2 = 0 ∨ x / 2 ^ i % 2 = 1 := by omega
  generalize x / 2 ^ i % 2 = b at *
  generalize x % 2 ^ i = r at *
  rw [e, Int.add_mul_emod_self_left, pow_succ2]
  rcases hb with rfl | rfl
  · rw [Int.mul_zero, Int.add_zero]; exact Int.emod_eq_of_lt m1 (by omega)
  · rw [Int.mul_one]; exact Int.emod_eq_of_lt (by omega) (by omega)
theorem and1 (x : Int) (h1 : 0 ≤ x) (h2 : x < 18446744073709551616) : Go.bits .and .u64 x 1 = x % 2 := by
  rw [u64_and x 1 h1 h2 (by decide) (by decide)]
  have : x.toNat &&& (1 : Int).toNat = x.toNat % 2 := Nat.and_one_is_mod _
  rw [this]; omega
theorem shr_u64 (x : Int) (i : Nat) (h : i ≤ 64) : shr .u64 x i = x / 2 ^ i := by
  unfold shr
  rw [Int.toNat_natCast, show min i IntKind.u64.bits = i from Nat.min_eq_left h]
theorem shl_u64 (i : Nat) (h : i < 64) : shl .u64 1 i = 2 ^ i := by
  have h1 := pow_le63 h
  have h2 := pow_pos2 i
  unfold shl
  rw [Int.toNat_natCast, show min i IntKind.u64.bits = i from Nat.min_eq_left (Nat.le_of_lt h), Int.one_mul, u64w]
  omega
theorem bit_read (x : Int) (i : Nat) (h1 : 0 ≤ x) (h2 : x < 18446744073709551616) (hi : i < 64) : wrap64 (Go.bits .and .u64 (shr .u64 x i) 1) = bit x i := by
  rw [shr_u64 x i (by omega)]
  have h3 : 0 ≤ x / 2 ^ i := Int.ediv_nonneg h1 (Int.le_of_lt (pow_pos2 i))
  have h4 : x / 2 ^ i ≤ x := Int.ediv_le_self _ h1
  rw [and1 _ h3 (by omega)]
  exact w64 (by omega) (by omega)
theorem or_low (x : Int) (i : Nat) (h1 : 0 ≤ x) (h2 : x < 2 ^ i) (hi : i < 64) : Go.bits .or .u64 x (2 ^ i) = x + 2 ^ i := by
  have h3 := pow_le63 hi
  have h4 := pow_pos2 i
  rw [u64_or x (2 ^ i) h1 (by omega) (by omega) (by omega)]
  have hb : ((2 : Int) ^ i).toNat = 2 ^ i := by
    have : ((2 : Int) ^ i) = ((2 ^ i : Nat) : Int) := by simp
    rw [this]; rfl
  have hx : x.toNat < 2 ^ i := by omega
  have := Nat.two_pow_add_eq_or_of_lt hx 1
  rw [hb, Nat.or_comm]
  rw [Nat.mul_one] at this
  rw [← this]
  omega
def bitsTo (x : Int) (n : Nat) : List Int := (List.range n).map (bit x)
theorem bitsTo_succ (x : Int) (n : Nat) : bitsTo x (n + 1) = bitsTo x n ++ [bit x n] := by unfold bitsTo; rw [List.range_succ, List.map_append]; rfl
theorem bitsTo_length (x : Int) (n : Nat) : (bitsTo x n).length = n := by unfold bitsTo; simp
theorem rd_bits (x : Int) (n : Nat) (i : Nat) (h : i < n) : rd (bitsTo x n) i = bit x i := by
  unfold rd bitsTo
  rw [Int.toNat_natCast, List.getD_eq_getElem?_getD, List.getElem?_map, List.getElem?_range h]
  rfl
def res (hi lo : Int) : Int := (hi % 18446744073709551616) * 18446744073709551616 + lo
theorem bit_lo (hi lo : Int) (h : Lo lo) (i : Nat) (hi64 : i < 64) : bit (res hi lo) i = bit lo i := by
  unfold Lo at h
  unfold bit res
  obtain ⟨d, hd⟩ : ∃ d, 64 = i + 1 + d := ⟨64 - (i + 1), by omega⟩
  have e : (18446744073709551616 : Int) = 2 ^ i * (2 * 2 ^ d) := by
    have : (18446744073709551616 : Int) = 2 ^ 64 := by decide
    rw [this, hd, Int.pow_add, pow_succ2]; grind
  have e2 : hi % 18446744073709551616 * 18446744073709551616 + lo = lo + 2 ^ i * (2 * 2 ^ d * (hi % 18446744073709551616)) := by
    generalize hi % 18446744073709551616 = q
    rw [e]; grind
  rw [e2, Int.add_mul_ediv_left _ _ (by have := pow_pos2 i; omega), Int.mul_assoc, Int.add_mul_emod_self_left]
theorem bit_hi (hi lo : Int) (h : Lo lo) (i : Nat) (hi64 : i < 64) : bit (res hi lo) (64 + i) = bit (hi % 18446744073709551616) i := by
  unfold Lo at h
  unfold bit res
  have e : (2 : Int) ^ (64 + i) = 18446744073709551616 * 2 ^ i := by
    rw [Int.pow_add]; rfl
  rw [e, ← Int.ediv_ediv_of_nonneg (by decide)]
  have : (hi % 18446744073709551616 * 18446744073709551616 + lo) / 18446744073709551616 = hi % 18446744073709551616 := by omega
  rw [this]
theorem bits_ev (hi lo : Int) (hh : Hi hi) (h : Lo lo) : Ev (fun k => apogeeref01_bits.f k hi lo) (bitsTo (res hi lo) 128) := by
  have h' := h
  unfold Lo at h'
  have l1 : ∀ d i : Nat, i + d = 64 → Ev (fun k => apogeeref01_bits.l1 k (bitsTo (res hi lo) (64 + i)) i hi lo) (bitsTo (res hi lo) 128) := by
    intro d
    induction d with
    | zero =>
      intro i hi'
      have : i = 64 := by omega
      subst this
      exact Ev.step (f := fun _ => some (bitsTo (res hi lo) 128)) (fun k => by simp only [apogeeref01_bits.l1]; rw [if_neg (by decide)]) (Ev.now _)
    | succ d ih =>
      intro i hi'
      refine Ev.step (f := fun k => apogeeref01_bits.l1 k (bitsTo (res hi lo) (64 + (i + 1))) ((i + 1 : Nat) : Int) hi lo) (fun k => ?_) (ih (i + 1) (by omega))
      simp only [apogeeref01_bits.l1]
      rw [if_pos (by omega), if_pos (by omega), if_pos (by rw [bitsTo_length]; omega), u64w, bit_read _ i (by omega) (by omega) (by omega), ← bit_hi hi lo h i (by omega), ← bitsTo_succ, w64 (by omega) (by omega)]
      rfl
  have l0 : ∀ d i : Nat, i + d = 64 → Ev (fun k => apogeeref01_bits.l0 k (bitsTo (res hi lo) i) i hi lo) (bitsTo (res hi lo) 128) := by
    intro d
    induction d with
    | zero =>
      intro i hi'
      have : i = 64 := by omega
      subst this
      exact Ev.step (f := fun k => apogeeref01_bits.l1 k (bitsTo (res hi lo) 64) 0 hi lo) (fun k => by simp only [apogeeref01_bits.l0]; rw [if_neg (by decide)]) (l1 64 0 rfl)
    | succ d ih =>
      intro i hi'
      refine Ev.step (f := fun k => apogeeref01_bits.l0 k (bitsTo (res hi lo) (i + 1)) ((i + 1 : Nat) : Int) hi lo) (fun k => ?_) (ih (i + 1) (by omega))
      simp only [apogeeref01_bits.l0]
      rw [if_pos (by omega), if_pos (by omega), if_pos (by rw [bitsTo_length]; omega), bit_read _ i h'.1 h'.2 (by omega), ← bit_lo hi lo h i (by omega), ← bitsTo_succ, w64 (by omega) (by omega)]
      rfl
  exact Ev.congr (fun k => rfl) (l0 64 0 rfl)
theorem value_ev (x : Int) : Ev (fun k => apogeeref01_value.f k (bitsTo x 128)) (pw x) := by
  have hb : ∀ i : Nat, bit (x / 18446744073709551616) i = bit x (64 + i) := by
    intro i
    unfold bit
    rw [Int.ediv_ediv_of_nonneg (by decide), Int.pow_add]; rfl
  have l0 : ∀ d i : Nat, i + d = 64 → Ev (fun k => apogeeref01_value.l0 k (bitsTo x 128) (x / 18446744073709551616 % 2 ^ i) i 0 (x % 2 ^ i)) (pw x) := by
    intro d
    induction d with
    | zero =>
      intro i hi'
      have : i = 64 := by omega
      subst this
      refine Ev.step (f := fun _ => some (pw x)) (fun k => ?_) (Ev.now _)
      simp only [apogeeref01_value.l0]; rw [if_neg (by decide)]
      have e : (2 : Int) ^ 64 = 18446744073709551616 := by decide
      rw [e]; unfold pw
      congr 2
      unfold wrap64; omega
    | succ d ih =>
      intro i hi'
      have g1 : (i : Int) < 64 := by omega
      have g2 : (0 : Int) ≤ i := by omega
      have g3 : (i : Int) < ((bitsTo x 128).length : Int) := by rw [bitsTo_length]; omega
      have g4 : (0 : Int) ≤ ((64 + i : Nat) : Int) := by omega
      have g5 : ((64 + i : Nat) : Int) < ((bitsTo x 128).length : Int) := by rw [bitsTo_length]; omega
      have n1 : i < 128 := by omega
      have n2 : 64 + i < 128 := by omega
      have n3 : i < 64 := by omega
      have w1 : wrap64 (64 + (i : Int)) = ((64 + i : Nat) : Int) := by rw [w64 (by omega) (by omega)]; omega
      have w2 : wrap64 ((i : Int) + 1) = ((i + 1 : Nat) : Int) := by rw [w64 (by omega) (by omega)]; rfl
      have nx := ih (i + 1) (by omega)
      clear ih hi'
      have p1 := pow_pos2 i
      have c1 := mod_succ x i
      have c2 := mod_succ (x / 18446744073709551616) i
      rw [hb] at c2
      have m1 : 0 ≤ x % 2 ^ i := Int.emod_nonneg _ (by omega)
      have m2 : x % 2 ^ i < 2 ^ i := Int.emod_lt_of_pos _ p1
      have m3 : 0 ≤ x / 18446744073709551616 % 2 ^ i := Int.emod_nonneg _ (by omega)
      have m4 : x / 18446744073709551616 % 2 ^ i < 2 ^ i := Int.emod_lt_of_pos _ p1
      refine Ev.step (f := fun k => apogeeref01_value.l0 k (bitsTo x 128) (x / 18446744073709551616 % 2 ^ (i + 1)) ((i + 1 : Nat) : Int) 0 (x % 2 ^ (i + 1))) (fun k => ?_) nx
      simp only [apogeeref01_value.l0]
      rw [if_pos g1, if_pos g2, if_pos g3, rd_bits x 128 i n1]
      rcases bit_01 x i with b1 | b1 <;> rcases bit_01 x (64 + i) with b2 | b2 <;> rw [b1, Int.mul_comm] at c1 <;> rw [b2, Int.mul_comm] at c2
      · rw [b1, if_neg (by decide), w1, if_pos g4, if_pos g5, rd_bits x 128 (64 + i) n2, b2, if_neg (by decide), w2, c1, c2]; simp
      · rw [b1, if_neg (by decide), w1, if_pos g4, if_pos g5, rd_bits x 128 (64 + i) n2, b2, if_pos rfl, shl_u64 i n3, or_low _ i m3 m4 n3, w2, c1, c2]; simp
      · rw [b1, if_pos rfl, w1, if_pos g4, if_pos g5, rd_bits x 128 (64 + i) n2, b2, if_neg (by decide), shl_u64 i n3, or_low _ i m1 m2 n3, w2, c1, c2]; simp
      · rw [b1, if_pos rfl, w1, if_pos g4, if_pos g5, rd_bits x 128 (64 + i) n2, b2, if_pos rfl, shl_u64 i n3, or_low _ i m3 m4 n3, or_low _ i m1 m2 n3, w2, c1, c2]; simp
  refine Ev.congr (f := fun k => apogeeref01_value.l0 k (bitsTo x 128) (x / 18446744073709551616 % 2 ^ 0) ((0 : Nat) : Int) 0 (x % 2 ^ 0)) (fun k => ?_) (l0 64 0 rfl)
  unfold apogeeref01_value.f
  rw [show (2 : Int) ^ 0 = 1 from rfl, Int.emod_one, Int.emod_one]; rfl
theorem carry_step (x y : Int) (i : Nat) : bit x i + bit y i + (x % 2 ^ i + y % 2 ^ i) / 2 ^ i = bit (x + y) i + 2 * ((x % 2 ^ (i + 1) + y % 2 ^ (i + 1)) / 2 ^ (i + 1)) := by
  have p1 := pow_pos2 i
  have c1 := mod_succ x i
  have c2 := mod_succ y i
  have hx := Int.mul_ediv_add_emod x (2 ^ i)
  have hy := Int.mul_ediv_add_emod y (2 ^ i)
  have m1 : 0 ≤ x % 2 ^ i := Int.emod_nonneg _ (by omega)
  have m2 : x % 2 ^ i < 2 ^ i := Int.emod_lt_of_pos _ p1
  have m3 : 0 ≤ y % 2 ^ i := Int.emod_nonneg _ (by omega)
  have m4 : y % 2 ^ i < 2 ^ i := Int.emod_lt_of_pos _ p1
  obtain ⟨c, hc, hc1⟩ : ∃ c : Int, (c = 0 ∨ c = 1) ∧ (x % 2 ^ i + y % 2 ^ i) / 2 ^ i = c := by
    by_cases h : x % 2 ^ i + y % 2 ^ i < 2 ^ i
    · exact ⟨0, .inl rfl, Int.ediv_eq_zero_of_lt (by omega) h⟩
    · refine ⟨1, .inr rfl, ?_⟩
      have : x % 2 ^ i + y % 2 ^ i = (x % 2 ^ i + y % 2 ^ i - 2 ^ i) + 2 ^ i * 1 := by omega
      rw [this, Int.add_mul_ediv_left _ _ (by omega), Int.ediv_eq_zero_of_lt (by omega) (by omega)]; rfl
  have hs : (x + y) / 2 ^ i = x / 2 ^ i + y / 2 ^ i + c := by
    have : x + y = (x % 2 ^ i + y % 2 ^ i) + 2 ^ i * (x / 2 ^ i + y / 2 ^ i) := by grind
    rw [this, Int.add_mul_ediv_left _ _ (by omega), hc1]; omega
  have hn : (x % 2 ^ (i + 1) + y % 2 ^ (i + 1)) / 2 ^ (i + 1) = (bit x i + bit y i + c) / 2 := by
    have e1 : x % 2 ^ (i + 1) + y % 2 ^ (i + 1) = (x % 2 ^ i + y % 2 ^ i) + 2 ^ i * (bit x i + bit y i) := by rw [c1, c2]; grind
    have e0 : (2 : Int) ^ (i + 1) = 2 ^ i * 2 := by rw [pow_succ2]; omega
    rw [e1, e0, ← Int.ediv_ediv_of_nonneg (by omega), Int.add_mul_ediv_left _ _ (by omega), hc1]
    congr 1; omega
  rw [hc1, hn]
  unfold bit
  rw [hs]
  omega
theorem carry_01 (x y : Int) (i : Nat) : 0 ≤ (x % 2 ^ i + y % 2 ^ i) / 2 ^ i ∧ (x % 2 ^ i + y % 2 ^ i) / 2 ^ i ≤ 1 := by
  have p1 := pow_pos2 i
  have m1 : 0 ≤ x % 2 ^ i := Int.emod_nonneg _ (by omega)
  have m2 : x % 2 ^ i < 2 ^ i := Int.emod_lt_of_pos _ p1
  have m3 : 0 ≤ y % 2 ^ i := Int.emod_nonneg _ (by omega)
  have m4 : y % 2 ^ i < 2 ^ i := Int.emod_lt_of_pos _ p1
  constructor
  · exact Int.ediv_nonneg (by omega) (by omega)
  · have : (x % 2 ^ i + y % 2 ^ i) / 2 ^ i < 2 := Int.ediv_lt_of_lt_mul p1 (by omega)
    omega
theorem plus_ev (a b c d : Int) (ha : Hi a) (hb : Lo b) (hc : Hi c) (hd : Lo d) : Ev (fun k => apogeeref01_plus.f k a b c d) (pw (a * 18446744073709551616 + b + (c * 18446744073709551616 + d))) := by
  have l0 : ∀ e i : Nat, i + e = 128 → Ev (fun k => apogeeref01_plus.l0 k (bitsTo (res a b) 128) (bitsTo (res c d) 128) (bitsTo (res a b + res c d) i) ((res a b % 2 ^ i + res c d % 2 ^ i) / 2 ^ i) i) (pw (res a b + res c d)) := by
    intro e
    induction e with
    | zero =>
      intro i hi'
      have : i = 128 := by omega
      subst this
      refine Ev.step (f := fun k => (apogeeref01_value.f k (bitsTo (res a b + res c d) 128)).bind fun bt => some (bt.1, bt.2)) (fun k => ?_) (Ev.bind (value_ev _) (Ev.now _))
      simp only [apogeeref01_plus.l0]; rw [if_neg (by decide)]
    | succ e ih =>
      intro i hi'
      refine Ev.step (f := fun k => apogeeref01_plus.l0 k (bitsTo (res a b) 128) (bitsTo (res c d) 128) (bitsTo (res a b + res c d) (i + 1)) ((res a b % 2 ^ (i + 1) + res c d % 2 ^ (i + 1)) / 2 ^ (i + 1)) ((i + 1 : Nat) : Int)) (fun k => ?_) (ih (i + 1) (by omega))
      have hcs := carry_step (res a b) (res c d) i
      have hc0 := carry_01 (res a b) (res c d) i
      have hc1 := carry_01 (res a b) (res c d) (i + 1)
      have b0 := bit_01 (res a b) i
      have b1 := bit_01 (res c d) i
      have b2 := bit_01 (res a b + res c d) i
      simp only [apogeeref01_plus.l0]
      rw [if_pos (by omega), if_pos (by omega), if_pos (by rw [bitsTo_length]; omega), if_pos (by rw [bitsTo_length]; omega), if_pos (by rw [bitsTo_length]; omega), rd_bits _ 128 i (by omega), rd_bits _ 128 i (by omega),
        w64 (x := bit (res a b) i + bit (res c d) i) (by omega) (by omega), w64 (x := bit (res a b) i + bit (res c d) i + (res a b % 2 ^ i + res c d % 2 ^ i) / 2 ^ i) (by omega) (by omega),
        Int.tmod_eq_emod_of_nonneg (by omega), Int.tdiv_eq_ediv_of_nonneg (by omega), w64 (x := (i : Int) + 1) (by omega) (by omega), bitsTo_succ _ i]
      have e1 : (bit (res a b) i + bit (res c d) i + (res a b % 2 ^ i + res c d % 2 ^ i) / 2 ^ i) % 2 = bit (res a b + res c d) i := by omega
      have e2 : (bit (res a b) i + bit (res c d) i + (res a b % 2 ^ i + res c d % 2 ^ i) / 2 ^ i) / 2 = (res a b % 2 ^ (i + 1) + res c d % 2 ^ (i + 1)) / 2 ^ (i + 1) := by omega
      rw [e1, e2, w64 (by omega) (by omega)]
      rfl
  have hp : pw (a * 18446744073709551616 + b + (c * 18446744073709551616 + d)) = pw (res a b + res c d) := by
    apply pw_congr; unfold res; omega
  rw [hp]
  refine Ev.congr (f := fun k => (apogeeref01_bits.f k a b).bind fun t => (apogeeref01_bits.f k c d).bind fun u => apogeeref01_plus.l0 k t u [] 0 0) (fun k => rfl) (Ev.bind (bits_ev a b ha hb) (Ev.bind (bits_ev c d hc hd) ?_))
  refine Ev.congr (fun k => ?_) (l0 128 0 rfl)
  rw [show (2 : Int) ^ 0 = 1 from rfl, Int.emod_one, Int.emod_one]; rfl
theorem plus_pw (x y : Int) : Ev (fun k => apogeeref01_plus.f k (pw x).1 (pw x).2 (pw y).1 (pw y).2) (pw (x + y)) := by
  have h := plus_ev (pw x).1 (pw x).2 (pw y).1 (pw y).2 (pw_hi x) (pw_lo x) (pw_hi y) (pw_lo y)
  have e : pw ((pw x).1 * 18446744073709551616 + (pw x).2 + ((pw y).1 * 18446744073709551616 + (pw y).2)) = pw (x + y) := by
    apply pw_congr; unfold pw wrap64; omega
  rw [e] at h
  exact h
end Go.Proofs.Ytjmibjmlihmglaa.Q
