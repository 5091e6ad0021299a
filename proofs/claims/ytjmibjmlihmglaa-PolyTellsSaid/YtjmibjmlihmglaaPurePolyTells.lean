/- PolyTells, in plain numbers: of any corners whether it is an area, sides, the way round, the way back and bounds are the reference's. No condition. -/
import Derived.Test.YtjmibjmlihmglaaGx0
import Derived.Test.YtjmibjmlihmglaaGx10
import Derived.Test.YtjmibjmlihmglaaGx11
import Derived.Test.YtjmibjmlihmglaaGx12
import Derived.Test.YtjmibjmlihmglaaGx13
import Derived.Test.YtjmibjmlihmglaaGx14
import Derived.Test.YtjmibjmlihmglaaGx16
import Derived.Test.YtjmibjmlihmglaaGx17
import Derived.Test.YtjmibjmlihmglaaGx19
import Derived.Test.YtjmibjmlihmglaaGx20
import Derived.Test.YtjmibjmlihmglaaGx21
import Derived.Test.YtjmibjmlihmglaaGx22
import Derived.Test.YtjmibjmlihmglaaGx23
import Derived.Test.YtjmibjmlihmglaaGx24
import Derived.Test.YtjmibjmlihmglaaGx25
import Derived.Test.YtjmibjmlihmglaaGx26
import Derived.Test.YtjmibjmlihmglaaGx6
import Derived.Test.YtjmibjmlihmglaaGx7
import Derived.Test.YtjmibjmlihmglaaArith
import Derived.Test.YtjmibjmlihmglaaWideBase
import Derived.Test.YtjmibjmlihmglaaWideAdd
import Derived.Test.YtjmibjmlihmglaaWide128
import Derived.Test.YtjmibjmlihmglaaWideMul
import Derived.Test.YtjmibjmlihmglaaGeoBase
import Derived.Test.YtjmibjmlihmglaaGeo
import Derived.Test.YtjmibjmlihmglaaPoint
import Derived.Test.YtjmibjmlihmglaaPoly
import Derived.Test.YtjmibjmlihmglaaSide
import Derived.Test.YtjmibjmlihmglaaWays
import Derived.Test.YtjmibjmlihmglaaStPolyTells
namespace Go.Proofs.Ytjmibjmlihmglaa.Pure
open Go.RowKit Go.Proofs.Ytjmibjmlihmglaa.G Go.Proofs.Ytjmibjmlihmglaa.Q Go.Proofs.Ytjmibjmlihmglaa.Geo Go.Proofs.YtjmibjmlihmglaaW.PrintWords Go.Proofs.YtjmibjmlihmglaaW.PrintLast Go.Proofs.YtjmibjmlihmglaaW.PrintMore
set_option linter.unusedVariables false
set_option linter.unusedSimpArgs false

theorem back_both (l : List S41) (h : l.length ≤ 12) : ∃ B : List S41, B.length ≤ 12 ∧ Ev (fun k => poly_Back.f k l) B ∧ Ev (fun k => apogeeref11_Back.f k l) B := by
  rcases l with _ | ⟨a0, l⟩
  · exact ⟨[], by simp, ⟨20, fun k hk => at_rounds (fun k => poly_Back.mono _ k) hk (by kernel_rfl)⟩, ⟨20, fun k hk => at_rounds (fun k => apogeeref11_Back.mono _ k) hk (by kernel_rfl)⟩⟩
  rcases l with _ | ⟨a1, l⟩
  · exact ⟨(a0 :: ([] : List S41).reverse), by simp, ⟨20, fun k hk => at_rounds (fun k => poly_Back.mono _ k) hk (by kernel_rfl)⟩, ⟨20, fun k hk => at_rounds (fun k => apogeeref11_Back.mono _ k) hk (by kernel_rfl)⟩⟩
  rcases l with _ | ⟨a2, l⟩
  · exact ⟨(a0 :: ([a1] : List S41).reverse), by simp, ⟨20, fun k hk => at_rounds (fun k => poly_Back.mono _ k) hk (by kernel_rfl)⟩, ⟨20, fun k hk => at_rounds (fun k => apogeeref11_Back.mono _ k) hk (by kernel_rfl)⟩⟩
  rcases l with _ | ⟨a3, l⟩
  · exact ⟨(a0 :: ([a1, a2] : List S41).reverse), by simp, ⟨20, fun k hk => at_rounds (fun k => poly_Back.mono _ k) hk (by kernel_rfl)⟩, ⟨20, fun k hk => at_rounds (fun k => apogeeref11_Back.mono _ k) hk (by kernel_rfl)⟩⟩
  rcases l with _ | ⟨a4, l⟩
  · exact ⟨(a0 :: ([a1, a2, a3] : List S41).reverse), by simp, ⟨20, fun k hk => at_rounds (fun k => poly_Back.mono _ k) hk (by kernel_rfl)⟩, ⟨20, fun k hk => at_rounds (fun k => apogeeref11_Back.mono _ k) hk (by kernel_rfl)⟩⟩
  rcases l with _ | ⟨a5, l⟩
  · exact ⟨(a0 :: ([a1, a2, a3, a4] : List S41).reverse), by simp, ⟨20, fun k hk => at_rounds (fun k => poly_Back.mono _ k) hk (by kernel_rfl)⟩, ⟨20, fun k hk => at_rounds (fun k => apogeeref11_Back.mono _ k) hk (by kernel_rfl)⟩⟩
  rcases l with _ | ⟨a6, l⟩
  · exact ⟨(a0 :: ([a1, a2, a3, a4, a5] : List S41).reverse), by simp, ⟨20, fun k hk => at_rounds (fun k => poly_Back.mono _ k) hk (by kernel_rfl)⟩, ⟨20, fun k hk => at_rounds (fun k => apogeeref11_Back.mono _ k) hk (by kernel_rfl)⟩⟩
  rcases l with _ | ⟨a7, l⟩
  · exact ⟨(a0 :: ([a1, a2, a3, a4, a5, a6] : List S41).reverse), by simp, ⟨20, fun k hk => at_rounds (fun k => poly_Back.mono _ k) hk (by kernel_rfl)⟩, ⟨20, fun k hk => at_rounds (fun k => apogeeref11_Back.mono _ k) hk (by kernel_rfl)⟩⟩
  rcases l with _ | ⟨a8, l⟩
  · exact ⟨(a0 :: ([a1, a2, a3, a4, a5, a6, a7] : List S41).reverse), by simp, ⟨20, fun k hk => at_rounds (fun k => poly_Back.mono _ k) hk (by kernel_rfl)⟩, ⟨20, fun k hk => at_rounds (fun k => apogeeref11_Back.mono _ k) hk (by kernel_rfl)⟩⟩
  rcases l with _ | ⟨a9, l⟩
  · exact ⟨(a0 :: ([a1, a2, a3, a4, a5, a6, a7, a8] : List S41).reverse), by simp, ⟨20, fun k hk => at_rounds (fun k => poly_Back.mono _ k) hk (by kernel_rfl)⟩, ⟨20, fun k hk => at_rounds (fun k => apogeeref11_Back.mono _ k) hk (by kernel_rfl)⟩⟩
  rcases l with _ | ⟨a10, l⟩
  · exact ⟨(a0 :: ([a1, a2, a3, a4, a5, a6, a7, a8, a9] : List S41).reverse), by simp, ⟨20, fun k hk => at_rounds (fun k => poly_Back.mono _ k) hk (by kernel_rfl)⟩, ⟨20, fun k hk => at_rounds (fun k => apogeeref11_Back.mono _ k) hk (by kernel_rfl)⟩⟩
  rcases l with _ | ⟨a11, l⟩
  · exact ⟨(a0 :: ([a1, a2, a3, a4, a5, a6, a7, a8, a9, a10] : List S41).reverse), by simp, ⟨20, fun k hk => at_rounds (fun k => poly_Back.mono _ k) hk (by kernel_rfl)⟩, ⟨20, fun k hk => at_rounds (fun k => apogeeref11_Back.mono _ k) hk (by kernel_rfl)⟩⟩
  rcases l with _ | ⟨a12, l⟩
  · exact ⟨(a0 :: ([a1, a2, a3, a4, a5, a6, a7, a8, a9, a10, a11] : List S41).reverse), by simp, ⟨20, fun k hk => at_rounds (fun k => poly_Back.mono _ k) hk (by kernel_rfl)⟩, ⟨20, fun k hk => at_rounds (fun k => apogeeref11_Back.mono _ k) hk (by kernel_rfl)⟩⟩
  · simp only [List.length_cons] at h; omega

theorem same_loop (l : List S41) (hl : l.length ≤ 4611686018427387904) (d : Nat) : ∀ i : Nat, i + d = l.length → Ev (fun k => apogeeref10_Same.l0 k l l i) true := by
  induction d with
  | zero => intro i hi; exact Ev.step (f := fun _ => some true) (fun k => by simp only [apogeeref10_Same.l0]; rw [if_neg (by omega)]) (Ev.now _)
  | succ d ih =>
    intro i hi
    refine Ev.step (f := fun k => apogeeref10_Same.l0 k l l ((i + 1 : Nat) : Int)) (fun k => ?_) (ih (i + 1) (by omega))
    simp only [apogeeref10_Same.l0]
    rw [if_pos (by omega), if_pos (by omega), if_pos (by omega), if_neg (by simp), w64 (by omega) (by omega)]; rfl
theorem same_ev (l : List S41) (hl : l.length ≤ 4611686018427387904) : Ev (fun k => apogeeref10_Same.f k l l) true :=
  Ev.congr (fun k => if_pos rfl) (same_loop l hl l.length 0 (by omega))

theorem pw01 : (pw 0).1 = 0 := by decide +kernel
theorem pw02 : (pw 0).2 = 0 := by decide +kernel
theorem pw1 {x : Int} (h : Wd x) : (pw x).1 = x / 18446744073709551616 := by unfold Wd at h; exact w64 (by omega) (by omega)
theorem add_ok (x y : Int) (hx : Wd x) (hy : Wd y) (hs : Wd (x + y)) : wide_Wide_Add.f (pw x).1 (pw x).2 (pw y).1 (pw y).2 = some ((pw (x + y)).1, (pw (x + y)).2, true) := by
  rw [wide_add _ _ _ _ (pw_hi x) (pw_lo x) (pw_hi y) (pw_lo y), pw1 hx, pw1 hy, pw1 hs]
  have e : (x / 18446744073709551616 + y / 18446744073709551616) * 18446744073709551616 + ((pw x).2 + (pw y).2) = x + y := by unfold pw; simp only; omega
  rw [e]
  unfold Wd at hs
  rw [if_pos hs]; rfl

theorem sub64c_plain (x y : Int) (hx : 0 ≤ x) (hy : 0 ≤ y) : sub64c x y 0 = if x < y then 1 else 0 := by
  unfold sub64c; by_cases c : x < y
  · rw [if_pos c, if_pos (by omega)]; rfl
  · rw [if_neg c, if_neg (by omega)]; rfl
theorem sub64s_plain (x y b : Int) (hx : 0 ≤ x) (hy : 0 ≤ y) (hy' : y < 18446744073709551616) (hb : 0 ≤ b) (hb' : b ≤ 1) (hxy : 0 ≤ x + 18446744073709551616 - y - b) : sub64s x y b = (x - y - b) % 18446744073709551616 := by
  unfold sub64s; rw [Int.ofNat_eq_natCast]; omega
theorem signs2 (a c s : Int) (a1 : -9223372036854775808 ≤ a) (a2 : a ≤ 9223372036854775807) (c1 : -9223372036854775808 ≤ c) (c2 : c ≤ 9223372036854775807) (s1 : -9223372036854775808 ≤ s) (s2 : s ≤ 9223372036854775807) :
    Go.bits .and .i64 (Go.bits .xor .i64 a c) (Go.bits .xor .i64 a s) < 0 ↔ ((a < 0 ↔ ¬ c < 0) ∧ (a < 0 ↔ ¬ s < 0)) := by
  rw [and_i64, xor_i64, xor_i64, BitVec.ofInt_toInt, BitVec.ofInt_toInt, toInt_neg, BitVec.msb_and, BitVec.msb_xor, BitVec.msb_xor, msb_ofInt a a1 a2, msb_ofInt c c1 c2, msb_ofInt s s1 s2]
  by_cases ha : a < 0 <;> by_cases hc : c < 0 <;> by_cases hs : s < 0 <;> simp [ha, hc, hs]
theorem sub_ok (x y : Int) (hx : Wd x) (hy : Wd y) (hs : Wd (x - y)) : wide_Wide_Sub.f (pw x).1 (pw x).2 (pw y).1 (pw y).2 = some ((pw (x - y)).1, (pw (x - y)).2, true) := by
  rw [pw1 hx, pw1 hy, pw1 hs]
  have e2 : ∀ z : Int, (pw z).2 = z % 18446744073709551616 := fun z => rfl
  rw [e2, e2, e2]
  unfold Wd at hx hy hs
  unfold wide_Wide_Sub.f
  rw [sub64c_plain _ _ (by omega) (by omega), sub64s_plain (x % 18446744073709551616) (y % 18446744073709551616) 0 (by omega) (by omega) (by omega) (by omega) (by omega) (by omega)]
  have hb : 0 ≤ (if x % 18446744073709551616 < y % 18446744073709551616 then (1 : Int) else 0) ∧ (if x % 18446744073709551616 < y % 18446744073709551616 then (1 : Int) else 0) ≤ 1 := by split <;> omega
  rw [if_pos hb.2, u64w, u64w, sub64s_plain _ _ _ (by omega) (by omega) (by omega) hb.1 hb.2 (by omega)]
  have hw : wrap64 ((x / 18446744073709551616 % 18446744073709551616 - y / 18446744073709551616 % 18446744073709551616 - (if x % 18446744073709551616 < y % 18446744073709551616 then (1 : Int) else 0)) % 18446744073709551616) = (x - y) / 18446744073709551616 := by
    by_cases c : x % 18446744073709551616 < y % 18446744073709551616
    · rw [if_pos c]; unfold wrap64; omega
    · rw [if_neg c]; unfold wrap64; omega
  rw [hw, if_neg]
  · congr 2; congr 1; omega
  · rw [signs2 _ _ _ (by omega) (by omega) (by omega) (by omega) (by omega) (by omega)]; omega

theorem neg_pw {x : Int} (h : Wd x) : decide ((pw x).1 < 0) = decide (x < 0) := by
  rw [pw1 h]; unfold Wd at h; apply decide_eq_decide.mpr; omega
theorem ref_add_ok (x y : Int) (hx : Wd x) (hy : Wd y) (hs : Wd (x + y)) : Ev (fun k => apogeeref01_Add.f k (pw x).1 (pw x).2 (pw y).1 (pw y).2) ((pw (x + y)).1, (pw (x + y)).2, true) := by
  refine Ev.congr (fun k => rfl) (Ev.bind (plus_pw x y) ?_)
  rw [neg_pw hx, neg_pw hy, neg_pw hs]
  refine ev_ite (fun c => ev_ite (fun c2 => ?_) (fun _ => Ev.now _)) (fun _ => Ev.now _)
  exfalso
  have c1 := beq_iff_eq.mp c
  have c3 := bne_iff_ne.mp c2
  by_cases g1 : x < 0 <;> by_cases g2 : y < 0 <;> by_cases g3 : x + y < 0 <;> simp [g1, g2, g3] at c1 c3 <;> omega
theorem ref_sub_ok (x y : Int) (hx : Wd x) (hy : Wd y) (hs : Wd (x - y)) : Ev (fun k => apogeeref01_Sub.f k (pw x).1 (pw x).2 (pw y).1 (pw y).2) ((pw (x - y)).1, (pw (x - y)).2, true) := by
  have hp := plus_pw x (-y)
  rw [show x + -y = x - y by omega] at hp
  refine Ev.congr (fun k => rfl) (Ev.bind (flip_pw y) (Ev.bind hp ?_))
  rw [neg_pw hx, neg_pw hy, neg_pw hs]
  refine ev_ite (fun c => ev_ite (fun c2 => ?_) (fun _ => Ev.now _)) (fun _ => Ev.now _)
  exfalso
  have c1 := bne_iff_ne.mp c
  have c3 := bne_iff_ne.mp c2
  by_cases g1 : x < 0 <;> by_cases g2 : y < 0 <;> by_cases g3 : x - y < 0 <;> simp [g1, g2, g3] at c1 c3 <;> omega

def sumF (l : List S41) : Nat → Nat → Int → Int
  | 0, _, s => s
  | d + 1, q, s => sumF l d (q + 1) (s + (ptAt l q).x * (ptAt l (nx l.length q)).y - (ptAt l q).y * (ptAt l (nx l.length q)).x)
def leftS (l : List S41) : Bool := rightS l && decide (0 < sumF l l.length 0 0)

theorem sg_pos (s : Int) : decide (sg s 0 > 0) = decide (0 < s) := by
  unfold sg; apply decide_eq_decide.mpr; split
  · omega
  · split <;> omega

theorem wds {s u v M : Int} (hM : M ≤ 77371252455336267181195264) (hs : -M ≤ s ∧ s ≤ M) (hu : -4835703278458516698824704 ≤ u ∧ u ≤ 4835703278458516698824704) (hv : -4835703278458516698824704 ≤ v ∧ v ≤ 4835703278458516698824704) :
    (Wd s ∧ Wd u ∧ Wd v ∧ Wd (s + u) ∧ Wd (s + u - v)) ∧ (-(9671406556917033397649408 + M) ≤ s + u - v ∧ s + u - v ≤ 9671406556917033397649408 + M) := by
  unfold Wd; omega
def bnd : Nat → Int
  | 0 => 0
  | d + 1 => 9671406556917033397649408 + bnd d
theorem bnd_nonneg : ∀ d, 0 ≤ bnd d
  | 0 => by decide
  | d + 1 => by have := bnd_nonneg d; show 0 ≤ 9671406556917033397649408 + bnd d; omega
theorem bnd_8 (n : Nat) (h : n ≤ 8) : bnd n ≤ 77371252455336267181195264 := by
  obtain rfl | rfl | rfl | rfl | rfl | rfl | rfl | rfl | rfl : n = 0 ∨ n = 1 ∨ n = 2 ∨ n = 3 ∨ n = 4 ∨ n = 5 ∨ n = 6 ∨ n = 7 ∨ n = 8 := by omega
  all_goals decide +kernel

theorem left_step (l : List S41) (hl2 : l.length ≤ 4611686018427387904) (q : Nat) (hlt : q < l.length) (s u v : Int)
    (m1 : wide_Mul.f (ptAt l q).x (ptAt l (nx l.length q)).y = some (pw u)) (m2 : wide_Mul.f (ptAt l q).y (ptAt l (nx l.length q)).x = some (pw v))
    (ws : Wd s) (wu : Wd u) (wv : Wd v) (wsu : Wd (s + u)) (wsv : Wd (s + u - v)) (k : Nat) :
    poly_Left.l0 (k + 1) l l.length q (pw s).1 (pw s).2 = poly_Left.l0 k l l.length ((q + 1 : Nat) : Int) (pw (s + u - v)).1 (pw (s + u - v)).2 := by
  have ew : wrap64 ((q : Int) + 1) = ((q + 1 : Nat) : Int) := by clear ws wu wv wsu wsv m1 m2; exact w64 (by omega) (by omega)
  have c : (q : Int) < (l.length : Int) := Int.ofNat_lt.mpr hlt
  simp only [poly_Left.l0]
  rw [if_pos c, edge_plain l hl2 q hlt]
  simp only [Option.bind_some]
  rw [m1]
  simp only [Option.bind_some]
  rw [add_ok s u ws wu wsu]
  simp only [Option.bind_some]
  rw [m2]
  simp only [Option.bind_some]
  rw [sub_ok (s + u) v wsu wv wsv]
  simp only [Option.bind_some]
  rw [ew]
theorem ref_left_step (l : List S41) (hl2 : l.length ≤ 4611686018427387904) (q : Nat) (hlt : q < l.length) (a b : Int) (k : Nat) :
    apogeeref11_Left.l0 (k + 1) l q a b = (apogeeref01_Mul.f k (ptAt l q).x (ptAt l (nx l.length q)).y).bind fun bt492 => ((apogeeref01_Add.f k a b bt492.1 bt492.2).bind fun bt494 => ((apogeeref01_Mul.f k (ptAt l q).y (ptAt l (nx l.length q)).x).bind fun bt498 => ((apogeeref01_Sub.f k bt494.1 bt494.2.1 bt498.1 bt498.2).bind fun bt500 => (apogeeref11_Left.l0 k l ((q + 1 : Nat) : Int) bt500.1 bt500.2.1)))) := by
  have ew : wrap64 ((q : Int) + 1) = ((q + 1 : Nat) : Int) := w64 (by omega) (by omega)
  simp only [apogeeref11_Left.l0]
  rw [if_pos (by omega), next_plain l hl2 q hlt]
  simp only [Option.bind_some]
  rw [if_pos (by omega), ew]; rfl
theorem left_end (l : List S41) (q : Nat) (hq : q = l.length) (s : Int) (hw : Wd s) :
    Ev (fun k => poly_Left.l0 k l l.length q (pw s).1 (pw s).2) (decide (0 < s)) ∧ Ev (fun k => apogeeref11_Left.l0 k l q (pw s).1 (pw s).2) (decide (0 < s)) := by
  have w0 : Wd 0 := by unfold Wd; omega
  have c1 := cmp_ev s 0 hw w0
  have c2 := ref_cmp_ev s 0 hw w0
  rw [← sg_pos]
  rw [pw01, pw02] at c1 c2
  clear hw w0
  constructor
  · refine Ev.step (f := fun k => ((wide_Wide_Cmp.f k (pw s).1 (pw s).2 0 0).bind fun t => some t).bind fun t => (some (decide (t > 0)))) (fun k => ?_) (Ev.bind (Ev.bind c1 (Ev.now _)) (Ev.now _))
    simp only [poly_Left.l0]; rw [if_neg (by omega)]; rfl
  · refine Ev.step (f := fun k => (apogeeref01_Cmp.f k (pw s).1 (pw s).2 0 0).bind fun t => (some (decide (t > 0)))) (fun k => ?_) (Ev.bind c2 (Ev.now _))
    simp only [apogeeref11_Left.l0]; rw [if_neg (by omega)]

theorem left_loop (l : List S41) (hl2 : l.length ≤ 4611686018427387904) (hok : okB l = true) (d : Nat) : ∀ (q : Nat) (s M : Int), q + d = l.length → M + bnd d ≤ 77371252455336267181195264 → (-M ≤ s ∧ s ≤ M) →
    Ev (fun k => poly_Left.l0 k l l.length q (pw s).1 (pw s).2) (decide (0 < sumF l d q s)) ∧ Ev (fun k => apogeeref11_Left.l0 k l q (pw s).1 (pw s).2) (decide (0 < sumF l d q s)) := by
  induction d with
  | zero =>
    intro q s M hq hM hs
    have hw : Wd s := by
      have : M ≤ 77371252455336267181195264 := by have h0 : bnd 0 = 0 := rfl; rw [h0] at hM; omega
      exact (wds (u := 0) (v := 0) this hs (by decide) (by decide)).1.1
    rw [show sumF l 0 q s = s from rfl]
    exact left_end l q (by omega) s hw
  | succ d ih =>
    intro q s M hq hM hs
    have hlt : q < l.length := by omega
    have hn := nx_lt (n := l.length) (i := q) (by omega)
    have o1 := right_okAt hok q hlt
    have o2 := right_okAt hok _ hn
    have hM1 : M ≤ 77371252455336267181195264 := by have h1 := bnd_nonneg (d + 1); omega
    have hM2 : 9671406556917033397649408 + M + bnd d ≤ 77371252455336267181195264 := by have h1 : bnd (d + 1) = 9671406556917033397649408 + bnd d := rfl; rw [h1] at hM; omega
    clear hM
    have hi : ∀ {p : Pt}, Ok p → (Hi p.x ∧ Hi p.y) ∧ (-2199023255552 ≤ p.x ∧ p.x ≤ 2199023255552) ∧ (-2199023255552 ≤ p.y ∧ p.y ≤ 2199023255552) := fun h => by unfold Ok at h; unfold Hi; omega
    have g1 := hi o1
    have g2 := hi o2
    have b1 := Go.Proofs.Ytjmibjmlihmglaa.Q.prod_bound (ptAt l q).x (ptAt l (nx l.length q)).y g1.2.1 g2.2.2
    have b2 := Go.Proofs.Ytjmibjmlihmglaa.Q.prod_bound (ptAt l q).y (ptAt l (nx l.length q)).x g1.2.2 g2.2.1
    have m1 := mul_plain _ _ g1.1.1 g2.1.2
    have m2 := mul_plain _ _ g1.1.2 g2.1.1
    have r1 := ref_mul_ev _ _ g1.1.1 g2.1.2
    have r2 := ref_mul_ev _ _ g1.1.2 g2.1.1
    obtain ⟨⟨ws, wu, wv, wsu, wsv⟩, hs2⟩ := wds hM1 hs b1 b2
    obtain ⟨I1, I2⟩ := ih (q + 1) _ _ (by omega) hM2 hs2
    rw [show sumF l (d + 1) q s = sumF l d (q + 1) (s + (ptAt l q).x * (ptAt l (nx l.length q)).y - (ptAt l q).y * (ptAt l (nx l.length q)).x) from rfl]
    exact ⟨Ev.step (left_step l hl2 q hlt s _ _ m1 m2 ws wu wv wsu wsv) I1, Ev.step (ref_left_step l hl2 q hlt _ _) (Ev.bind r1 (Ev.bind (ref_add_ok s _ ws wu wsu) (Ev.bind r2 (Ev.bind (ref_sub_ok _ _ wsu wv wsv) I2))))⟩

theorem left_both (l : List S41) (hl : l.length ≤ 4611686018427387904) : Ev (fun k => poly_Left.f k l) (leftS l) ∧ Ev (fun k => apogeeref11_Left.f k l) (leftS l) := by
  have h1 := prog_right l hl
  have h2 := ref_right l hl
  unfold leftS
  cases hr : rightS l with
  | false =>
    rw [hr] at h1 h2
    exact ⟨Ev.congr (fun k => rfl) (Ev.bind h1 (Ev.congr (f := fun _ => some false) (fun k => if_neg (by decide)) (Ev.now _))), Ev.congr (fun k => rfl) (Ev.bind h2 (Ev.congr (f := fun _ => some false) (fun k => if_neg (by decide)) (Ev.now _)))⟩
  | true =>
    rw [hr] at h1 h2
    have hs := right_simple hr
    have h3 := simple_len hs
    have L := left_loop l hl (simple_ok hs) l.length 0 0 0 (by omega) (by have := bnd_8 l.length h3.2; omega) (by decide)
    rw [pw01, pw02] at L
    rw [Bool.true_and]
    exact ⟨Ev.congr (fun k => rfl) (Ev.bind h1 (Ev.congr (fun k => if_pos rfl) L.1)), Ev.congr (fun k => rfl) (Ev.bind h2 (Ev.congr (fun k => if_pos rfl) L.2))⟩

theorem ref_bounds_loop (l : List S41) (hl : l.length ≤ 4611686018427387904) (d : Nat) : ∀ (q : Nat) (a b c e : Int), q + d = l.length →
    Ev (fun k => apogeeref11_Bounds.l0 k l q a b c e) (bF l d q (a, b, c, e)) := by
  induction d with
  | zero =>
    intro q a b c e hq
    exact Ev.step (f := fun _ => some (a, b, c, e)) (fun k => by simp only [apogeeref11_Bounds.l0]; rw [if_neg (by omega)]) (Ev.now _)
  | succ d ih =>
    intro q a b c e hq
    refine Ev.step (f := fun k => apogeeref11_Bounds.l0 k l ((q + 1 : Nat) : Int) (min a (ptAt l q).x) (min b (ptAt l q).y) (max c (ptAt l q).x) (max e (ptAt l q).y)) (fun k => ?_) (ih (q + 1) _ _ _ _ (by omega))
    simp only [apogeeref11_Bounds.l0]
    rw [if_pos (by omega), if_pos (by omega), w64 (by omega) (by omega), mn_min, mn_min, mx_max, mx_max]; rfl
theorem ref_bounds (l : List S41) (hl : l.length ≤ 4611686018427387904) (h : 0 < l.length) : Ev (fun k => apogeeref11_Bounds.f k l) (boundsS l) :=
  Ev.congr (fun k => if_pos (by omega)) (ref_bounds_loop l hl l.length 0 _ _ _ _ (by omega))

theorem bne_self_f {α : Type} [BEq α] [LawfulBEq α] (a : α) : ¬ ((a != a) = true) := by simp

theorem PolyTells : G.PolyTells.Pure := by
  intro l x _ _
  apply ev_some11
  refine Ev.congr (fun k => rfl) (Ev.bind awake11 (Ev.congr (fun k => if_pos rfl) (Ev.bind (a := decide (l.length ≤ 12)) (Ev.congr (fun k => few11 l) (Ev.now _)) ?_)))
  by_cases h12 : l.length ≤ 12
  case neg =>
    rw [decide_eq_false h12]
    exact Ev.step (f := fun k => (apogeelaw11_awake.f k).bind fun t => (some t)) (fun k => by simp only [apogeelaw11_PolyTells.j0]; rw [if_pos (by decide)]) (Ev.bind awake11 (Ev.now _))
  rw [decide_eq_true h12]
  have hl2 : l.length ≤ 4611686018427387904 := by omega
  obtain ⟨B, BL, B1, B2⟩ := back_both l h12
  have hB : B.length ≤ 4611686018427387904 := by omega
  obtain ⟨L1, L2⟩ := left_both l hl2
  have S1 := prog_side l hl2 (pt x)
  have S2 := ref_side l hl2 (pt x)
  have tail : ∀ (b : Bx) (ok : Bool), ok = rightS l → Ev (fun k => poly_Bounds.f k l) (b.1, b.2.1, b.2.2.1, b.2.2.2, ok) →
      Ev (fun k => if rightS l = true then ((apogeeref11_Bounds.f k l).bind fun bt542 => (some ((b.1 == bt542.1 && (b.2.1 == bt542.2.1)) && ((b.2.2.1 == bt542.2.2.1 && (b.2.2.2 == bt542.2.2.2)))))) else (if ((b.1 == 0 && (b.2.1 == 0)) && ((b.2.2.1 == 0 && (b.2.2.2 == 0)))) = true then (some true) else (none))) true →
      Ev (fun k => apogeelaw11_PolyTells.j0 k l (!true) x.f0 x.f1) true := by
    intro b ok hk Bd T
    refine Ev.step (f := fun k => ((poly_Bounds.f k l).bind fun bt521 => ((apogeeref11_Right.f k l).bind fun t527 => ((poly_Simple.f k l).bind fun t528 => ((apogeeref11_Simple.f k l).bind fun t529 => (if (t528 != t529) = true then (none) else ((poly_Right.f k l).bind fun t530 => (if (t530 != t527) = true then (none) else ((poly_Side.f k l x.f0 x.f1).bind fun t531 => ((apogeeref11_Side.f k l x.f0 x.f1).bind fun t532 => (if t531 = t532 then ((poly_Left.f k l).bind fun t533 => ((apogeeref11_Left.f k l).bind fun t534 => (if (t533 != t534) = true then (none) else ((poly_Back.f k l).bind fun t535 => ((apogeeref11_Back.f k l).bind fun t538 => ((apogeeref10_Same.f k t535 t538).bind fun t541 => (if t541 = true then (if (bt521.2.2.2.2 != t527) = true then (none) else (if t527 = true then ((apogeeref11_Bounds.f k l).bind fun bt542 => (some ((bt521.1 == bt542.1 && (bt521.2.1 == bt542.2.1)) && ((bt521.2.2.1 == bt542.2.2.1 && (bt521.2.2.2.1 == bt542.2.2.2)))))) else (if ((bt521.1 == 0 && (bt521.2.1 == 0)) && ((bt521.2.2.1 == 0 && (bt521.2.2.2.1 == 0)))) = true then (some true) else (none)))) else (none)))))))) else (none)))))))))))) (fun k => by simp only [apogeelaw11_PolyTells.j0]; rw [if_neg (by decide)]) ?_
    refine Ev.bind Bd (Ev.bind (ref_right l hl2) (Ev.bind (prog_simple l hl2) (Ev.bind (ref_simple l hl2) (Ev.congr (fun k => if_neg (bne_self_f _)) (Ev.bind (prog_right l hl2) (Ev.congr (fun k => if_neg (bne_self_f _)) (Ev.bind S1 (Ev.bind S2 (Ev.congr (fun k => if_pos rfl) (Ev.bind L1 (Ev.bind L2 (Ev.congr (fun k => if_neg (bne_self_f _)) (Ev.bind B1 (Ev.bind B2 (Ev.bind (same_ev B hB) (Ev.congr (fun k => if_pos rfl) (Ev.congr (fun k => if_neg (by rw [hk]; exact bne_self_f _)) T)))))))))))))))))
  cases hr : rightS l with
  | true =>
    have h3 := simple_len (right_simple hr)
    refine tail (boundsS l) true hr.symm (prog_bounds l hl2 hr) ?_
    rw [hr]
    refine Ev.congr (fun k => if_pos rfl) (Ev.bind (ref_bounds l hl2 (by omega)) ?_)
    simp only [beq_self_eq_true, Bool.and_self]; exact Ev.now _
  | false =>
    refine tail (0, 0, 0, 0) false hr.symm ?_ ?_
    · have h1 := prog_right l hl2
      rw [hr] at h1
      exact Ev.congr (fun k => rfl) (Ev.bind h1 (Ev.congr (f := fun _ => some (0, 0, 0, 0, false)) (fun k => if_neg (by decide)) (Ev.now _)))
    · rw [hr]
      exact Ev.congr (f := fun _ => some true) (fun k => by rw [if_neg (by decide), if_pos (by decide)]) (Ev.now _)

end Go.Proofs.Ytjmibjmlihmglaa.Pure
