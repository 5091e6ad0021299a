/- Areas: the program's and the reference's answers about corners are those of plane geometry. -/
import Derived.Test.YtjmibjmlihmglaaGx0
import Derived.Test.YtjmibjmlihmglaaGx12
import Derived.Test.YtjmibjmlihmglaaGx15
import Derived.Test.YtjmibjmlihmglaaGx16
import Derived.Test.YtjmibjmlihmglaaGx17
import Derived.Test.YtjmibjmlihmglaaGx18
import Derived.Test.YtjmibjmlihmglaaGx3
import Derived.Test.YtjmibjmlihmglaaGx4
import Derived.Test.YtjmibjmlihmglaaGx6
import Derived.Test.YtjmibjmlihmglaaGx7
import Derived.Test.YtjmibjmlihmglaaGx8
import Derived.Test.YtjmibjmlihmglaaArith
import Derived.Test.YtjmibjmlihmglaaWideBase
import Derived.Test.YtjmibjmlihmglaaWide128
import Derived.Test.YtjmibjmlihmglaaWideMul
import Derived.Test.YtjmibjmlihmglaaGeoBase
import Derived.Test.YtjmibjmlihmglaaPoint
namespace Go.Proofs.Ytjmibjmlihmglaa.Q
open Go.RowKit Go.Proofs.Ytjmibjmlihmglaa.G Go.Proofs.Ytjmibjmlihmglaa.Geo Go.Proofs.YtjmibjmlihmglaaW.PrintWords Go.Proofs.YtjmibjmlihmglaaW.PrintLast Go.Proofs.YtjmibjmlihmglaaW.PrintMore
set_option linter.unusedVariables false
set_option linter.unusedSimpArgs false
theorem ev_ite {α : Type} {p : Prop} [Decidable p] {f g : Nat → Option α} {r : α} (h1 : p → Ev f r) (h2 : ¬ p → Ev g r) : Ev (fun k => if p then f k else g k) r := by
  by_cases c : p
  · exact Ev.congr (fun k => if_pos c) (h1 c)
  · exact Ev.congr (fun k => if_neg c) (h2 c)
def allF : Nat → Nat → (Nat → Bool) → Bool
  | 0, _, _ => true
  | d + 1, q, p => p q && allF d (q + 1) p
theorem allF_iff (p : Nat → Bool) : ∀ d q, (allF d q p = true ↔ ∀ a, q ≤ a → a < q + d → p a = true)
  | 0, q => by simp [allF]; intro a h1 h2; omega
  | d + 1, q => by
    simp only [allF, Bool.and_eq_true, allF_iff p d (q + 1)]
    constructor
    · intro h a h1 h2
      by_cases c : a = q
      · rw [c]; exact h.1
      · exact h.2 a (by omega) (by omega)
    · exact fun h => ⟨h q (Nat.le_refl _) (by omega), fun a h1 h2 => h a (by omega) (by omega)⟩
def ptAt (l : List S41) (i : Nat) : Pt := pt (rd_T41 l (i : Int))
def nx (n i : Nat) : Nat := (i + 1) % n
theorem nx_lt {n i : Nat} (h : 0 < n) : nx n i < n := Nat.mod_lt _ h
theorem nx_idx (i n : Nat) (hi : i < n) (hn : n ≤ 4611686018427387904) : Int.tmod (wrap64 ((i : Int) + 1)) (n : Int) = ((nx n i : Nat) : Int) := by
  rw [w64 (by omega) (by omega), Int.tmod_eq_emod_of_nonneg (by omega)]
  unfold nx
  rw [Int.natCast_emod]; rfl
theorem edge_plain (l : List S41) (hl : l.length ≤ 4611686018427387904) (i : Nat) (hi : i < l.length) :
    poly_edge.f l i = some ((ptAt l i).x, (ptAt l i).y, (ptAt l (nx l.length i)).x, (ptAt l (nx l.length i)).y) := by
  unfold poly_edge.f
  have := nx_lt (n := l.length) (i := i) (by omega)
  rw [if_pos (by omega), if_pos (by omega), if_neg (by omega), nx_idx i l.length hi hl, if_pos (by omega), if_pos (by omega)]; rfl
theorem next_plain (l : List S41) (hl : l.length ≤ 4611686018427387904) (i : Nat) (hi : i < l.length) :
    apogeeref11_next.f l i = some ((ptAt l (nx l.length i)).x, (ptAt l (nx l.length i)).y) := by
  unfold apogeeref11_next.f
  have := nx_lt (n := l.length) (i := i) (by omega)
  rw [if_neg (by omega), nx_idx i l.length hi hl, if_pos (by omega), if_pos (by omega)]; rfl
def apartB (l : List S41) (a b : Nat) : Bool :=
  if b = a + 1 then !onS (ptAt l (nx l.length b)) (ptAt l a) (ptAt l (nx l.length a)) && !onS (ptAt l a) (ptAt l b) (ptAt l (nx l.length b))
  else if a = 0 ∧ b + 1 = l.length then !onS (ptAt l b) (ptAt l a) (ptAt l (nx l.length a)) && !onS (ptAt l (nx l.length a)) (ptAt l b) (ptAt l (nx l.length b))
  else !meetS (ptAt l a) (ptAt l (nx l.length a)) (ptAt l b) (ptAt l (nx l.length b))
def sameB (l : List S41) (a b : Nat) : Bool := (ptAt l a).x == (ptAt l b).x && (ptAt l a).y == (ptAt l b).y
theorem sameB_comm (l : List S41) (a b : Nat) : sameB l a b = sameB l b a := by
  unfold sameB; rw [Bool.eq_iff_iff]; simp only [Bool.and_eq_true, beq_iff_eq]; omega
def pairB (l : List S41) (a b : Nat) : Bool := !sameB l a b && apartB l a b
theorem nots_ev {f g : Nat → Option Bool} {x y : Bool} (h1 : Ev f x) (h2 : Ev g y) :
    Ev (fun k => (f k).bind fun t => (if t = true then (some false) else ((g k).bind fun u => (some (!u))))) (!x && !y) := by
  refine Ev.bind h1 (ev_ite (fun c => ?_) (fun c => ?_))
  · rw [c]; exact Ev.now _
  · rw [Bool.eq_false_iff.mpr c]; exact Ev.bind h2 (Ev.now _)
theorem apart_ev (l : List S41) (hl : l.length ≤ 4611686018427387904) (a b : Nat) (hab : a < b) (hb : b < l.length) : Ev (fun k => poly_apart.f k l a b) (apartB l a b) := by
  have e1 := edge_plain l hl a (by omega)
  have e2 := edge_plain l hl b hb
  have i1 := nx_idx a l.length (by omega) hl
  have i2 := nx_idx b l.length hb hl
  have n1 : nx l.length a = a + 1 := Nat.mod_eq_of_lt (by omega)
  unfold apartB
  by_cases c1 : b = a + 1
  · rw [if_pos c1]
    refine Ev.congr (fun k => ?_) (nots_ev (on_ev (ptAt l (nx l.length b)) (ptAt l a) (ptAt l (nx l.length a))) (on_ev (ptAt l a) (ptAt l b) (ptAt l (nx l.length b))))
    unfold poly_apart.f; rw [e1, e2]; simp only [Option.bind_some]
    rw [if_neg (by omega), i1, if_pos (by omega)]
  · rw [if_neg c1]
    by_cases c2 : a = 0 ∧ b + 1 = l.length
    · rw [if_pos c2]
      have n2 : nx l.length b = 0 := by unfold nx; rw [c2.2]; exact Nat.mod_self _
      refine Ev.congr (fun k => ?_) (nots_ev (on_ev (ptAt l b) (ptAt l a) (ptAt l (nx l.length a))) (on_ev (ptAt l (nx l.length a)) (ptAt l b) (ptAt l (nx l.length b))))
      unfold poly_apart.f; rw [e1, e2]; simp only [Option.bind_some]
      rw [if_neg (by omega), i1, if_neg (by omega), i2, if_pos (by omega)]
    · rw [if_neg c2]
      have n2 : nx l.length b ≠ a := by
        unfold nx
        by_cases c3 : b + 1 = l.length
        · rw [c3, Nat.mod_self]; omega
        · rw [Nat.mod_eq_of_lt (by omega)]; omega
      refine Ev.congr (f := fun k => (point_Meet.f k (ptAt l a).x (ptAt l a).y (ptAt l (nx l.length a)).x (ptAt l (nx l.length a)).y (ptAt l b).x (ptAt l b).y (ptAt l (nx l.length b)).x (ptAt l (nx l.length b)).y).bind fun t => (some (!t))) (fun k => ?_) (Ev.bind (meet_ev _ _ _ _) (Ev.now _))
      unfold poly_apart.f; rw [e1, e2]; simp only [Option.bind_some]
      rw [if_neg (by omega), i1, if_neg (by omega), i2, if_neg (by omega)]
theorem simple_in (l : List S41) (hl : l.length ≤ 4611686018427387904) (i : Nat) (hi : i < l.length) (R : Bool) (hR : Ev (fun k => poly_Simple.l0 k l l.length ((i + 1 : Nat) : Int)) R) (d : Nat) :
    ∀ q : Nat, q + d = i → Ev (fun k => poly_Simple.l1 k l i l.length i i q) (allF d q (fun a => pairB l a i) && R) := by
  induction d with
  | zero =>
    intro q hq
    refine Ev.step (f := fun k => poly_Simple.l0 k l l.length ((i + 1 : Nat) : Int)) (fun k => ?_) (by simpa [allF] using hR)
    simp only [poly_Simple.l1]; rw [if_neg (by omega), w64 (by omega) (by omega)]; rfl
  | succ d ih =>
    intro q hq
    refine Ev.step (f := fun k => if (sameB l i q) = true then (some false) else ((poly_apart.f k l q i).bind fun t => (if t = true then (poly_Simple.l1 k l i l.length i i ((q + 1 : Nat) : Int)) else (some false)))) (fun k => ?_) ?_
    · simp only [poly_Simple.l1]; rw [if_pos (by omega), if_pos (by omega), if_pos (by omega), if_pos (by omega), if_pos (by omega), w64 (by omega) (by omega)]; rfl
    · simp only [allF]
      rw [show pairB l q i = (!sameB l i q && apartB l q i) by unfold pairB; rw [sameB_comm]]
      refine ev_ite (fun c => ?_) (fun c => ?_)
      · rw [c]; exact Ev.now _
      · rw [Bool.eq_false_iff.mpr c]
        refine Ev.bind (apart_ev l hl q i (by omega) hi) (ev_ite (fun c2 => ?_) (fun c2 => ?_))
        · rw [c2]; simpa using ih (q + 1) (by omega)
        · rw [Bool.eq_false_iff.mpr c2]; exact Ev.now _
theorem simple_out (l : List S41) (hl : l.length ≤ 4611686018427387904) (d : Nat) :
    ∀ i : Nat, i + d = l.length → Ev (fun k => poly_Simple.l0 k l l.length i) (allF d i (fun b => allF b 0 (fun a => pairB l a b))) := by
  induction d with
  | zero =>
    intro i hi
    refine Ev.step (f := fun _ => some true) (fun k => ?_) (Ev.now _)
    simp only [poly_Simple.l0]; rw [if_neg (by omega)]
  | succ d ih =>
    intro i hi
    refine Ev.step (f := fun k => poly_Simple.l1 k l i l.length i i ((0 : Nat) : Int)) (fun k => ?_) ?_
    · simp only [poly_Simple.l0]; rw [if_pos (by omega)]; rfl
    · simp only [allF]; exact simple_in l hl i (by omega) _ (ih (i + 1) (by omega)) i 0 (by omega)
theorem idx_simple (l : List S41) (hl : l.length ≤ 4611686018427387904) (d : Nat) : ∀ i : Nat, i + d = l.length →
    ∃ r : Int, Ev (fun k => slices_IndexFunc_Point_F_poly_Simple_1.l0 k l l.length i) r ∧ decide (r ≥ 0) = !allF d i (fun a => decide (Ok (ptAt l a))) := by
  induction d with
  | zero =>
    intro i hi
    refine ⟨-1, Ev.step (f := fun _ => some (-1)) (fun k => ?_) (Ev.now _), rfl⟩
    simp only [slices_IndexFunc_Point_F_poly_Simple_1.l0]; rw [if_neg (by omega)]
  | succ d ih =>
    intro i hi
    obtain ⟨r, hr, hs⟩ := ih (i + 1) (by omega)
    have e : ∀ k, slices_IndexFunc_Point_F_poly_Simple_1.l0 (k + 1) l l.length i = if (!decide (Ok (ptAt l i))) = true then some (i : Int) else slices_IndexFunc_Point_F_poly_Simple_1.l0 k l l.length ((i + 1 : Nat) : Int) := by
      intro k
      simp only [slices_IndexFunc_Point_F_poly_Simple_1.l0]
      rw [if_pos (by omega), if_pos (by omega), if_pos (by omega), w64 (by omega) (by omega)]
      show ((poly_Simple_1.f (ptAt l i).x (ptAt l i).y).bind _) = _
      unfold poly_Simple_1.f; rw [point_right_one]; rfl
    simp only [allF]
    by_cases c : Ok (ptAt l i)
    · exact ⟨r, Ev.step (f := fun k => slices_IndexFunc_Point_F_poly_Simple_1.l0 k l l.length ((i + 1 : Nat) : Int)) (fun k => by rw [e k, decide_eq_true c]; rfl) hr, by rw [hs, decide_eq_true c]; rfl⟩
    · exact ⟨i, Ev.step (f := fun k => some (i : Int)) (fun k => by rw [e k, decide_eq_false c]; rfl) (Ev.now _), by rw [decide_eq_false c]; exact decide_eq_true (by omega)⟩
def okB (l : List S41) : Bool := allF l.length 0 (fun a => decide (Ok (ptAt l a)))
def simpleS (l : List S41) : Bool := decide (3 ≤ l.length) && (decide (l.length ≤ 8) && (okB l && allF l.length 0 (fun b => allF b 0 (fun a => pairB l a b))))
theorem prog_simple (l : List S41) (hl : l.length ≤ 4611686018427387904) : Ev (fun k => poly_Simple.f k l) (simpleS l) := by
  have hz : Ev (fun k => poly_Simple.j0 k l l.length true) false := Ev.step (f := fun _ => some false) (fun k => by simp only [poly_Simple.j0]; rw [if_pos trivial]) (Ev.now _)
  unfold simpleS
  refine Ev.congr (fun k => rfl) (ev_ite (fun c => ?_) (fun c => ?_))
  · rw [decide_eq_false (by omega)]; exact hz
  · rw [decide_eq_true (show 3 ≤ l.length by omega)]
    refine ev_ite (fun c2 => ?_) (fun c2 => ?_)
    · rw [decide_eq_false (by omega)]; exact hz
    · rw [decide_eq_true (show l.length ≤ 8 by omega)]
      obtain ⟨r, hr, hs⟩ := idx_simple l hl l.length 0 (by omega)
      refine Ev.bind (a := decide (r ≥ 0)) (Ev.bind hr (Ev.now _)) ?_
      rw [hs]
      unfold okB
      refine Ev.step (f := fun k => if (!allF l.length 0 fun a => decide (Ok (ptAt l a))) = true then (some false) else (poly_Simple.l0 k l l.length 0)) (fun k => by simp only [poly_Simple.j0]) (ev_ite (fun c3 => ?_) (fun c3 => ?_))
      · rw [show (allF l.length 0 fun a => decide (Ok (ptAt l a))) = false by simpa using c3]; exact Ev.now _
      · rw [show (allF l.length 0 fun a => decide (Ok (ptAt l a))) = true by simpa using c3]
        simpa using simple_out l hl l.length 0 (by omega)
theorem ref_in (l : List S41) (hl : l.length ≤ 4611686018427387904) (i : Nat) (hi : i < l.length) (R : Bool) (hR : Ev (fun k => apogeeref11_Simple.l1 k l l.length ((i + 1 : Nat) : Int)) R) (d : Nat) :
    ∀ q : Nat, i < q → q + d = l.length → Ev (fun k => apogeeref11_Simple.l2 k l l.length i q) (allF d q (fun b => pairB l i b) && R) := by
  induction d with
  | zero =>
    intro q h0 hq
    refine Ev.step (f := fun k => apogeeref11_Simple.l1 k l l.length ((i + 1 : Nat) : Int)) (fun k => ?_) (by simpa [allF] using hR)
    simp only [apogeeref11_Simple.l2]; rw [if_neg (by omega), w64 (by omega) (by omega)]; rfl
  | succ d ih =>
    intro q h0 hq
    have IH := ih (q + 1) (by omega) (by omega)
    refine Ev.step (f := fun k => apogeeref11_Simple.j4 k l l.length i q (sameB l i q) (ptAt l i).x (ptAt l i).y (ptAt l (nx l.length i)).x (ptAt l (nx l.length i)).y (ptAt l q).x (ptAt l q).y (ptAt l (nx l.length q)).x (ptAt l (nx l.length q)).y) (fun k => ?_) ?_
    · simp only [apogeeref11_Simple.l2]
      rw [if_pos (by omega), if_pos (by omega), if_pos (by omega), next_plain l hl i hi, next_plain l hl q (by omega)]
      simp only [Option.bind_some]
      rw [if_pos (by omega), if_pos (by omega)]; rfl
    have w1 : wrap64 ((i : Int) + 1) = (i : Int) + 1 := w64 (by omega) (by omega)
    have w2 : wrap64 ((q : Int) + 1) = ((q + 1 : Nat) : Int) := w64 (by omega) (by omega)
    have w3 : wrap64 ((l.length : Int) - 1) = (l.length : Int) - 1 := w64 (by omega) (by omega)
    have tail : ∀ {f g : Nat → Option Bool} {x y : Bool}, Ev f x → Ev g y → Ev (fun k => (f k).bind fun t => (if t = true then (some false) else ((g k).bind fun u => (if u = true then (some false) else (apogeeref11_Simple.l2 k l l.length i ((q + 1 : Nat) : Int)))))) ((!x && !y) && (allF d (q + 1) (fun b => pairB l i b) && R)) := by
      intro f g x y h1 h2
      refine Ev.bind h1 (ev_ite (fun c => ?_) (fun c => ?_))
      · rw [c]; exact Ev.now _
      · rw [Bool.eq_false_iff.mpr c]
        refine Ev.bind h2 (ev_ite (fun c => ?_) (fun c => ?_))
        · rw [c]; exact Ev.now _
        · rw [Bool.eq_false_iff.mpr c]; simpa using IH
    have j5 : Ev (fun k => apogeeref11_Simple.j5 k l l.length i q (decide (i = 0 ∧ q + 1 = l.length)) (ptAt l i).x (ptAt l i).y (ptAt l (nx l.length i)).x (ptAt l (nx l.length i)).y (ptAt l q).x (ptAt l q).y (ptAt l (nx l.length q)).x (ptAt l (nx l.length q)).y)
        ((if i = 0 ∧ q + 1 = l.length then !onS (ptAt l q) (ptAt l i) (ptAt l (nx l.length i)) && !onS (ptAt l (nx l.length i)) (ptAt l q) (ptAt l (nx l.length q)) else !meetS (ptAt l i) (ptAt l (nx l.length i)) (ptAt l q) (ptAt l (nx l.length q))) && (allF d (q + 1) (fun b => pairB l i b) && R)) := by
      refine Ev.step (f := fun k => if decide (i = 0 ∧ q + 1 = l.length) = true then ((apogeeref10_On.f k (ptAt l q).x (ptAt l q).y (ptAt l i).x (ptAt l i).y (ptAt l (nx l.length i)).x (ptAt l (nx l.length i)).y).bind fun t458 => (if t458 = true then (some false) else ((apogeeref10_On.f k (ptAt l (nx l.length i)).x (ptAt l (nx l.length i)).y (ptAt l q).x (ptAt l q).y (ptAt l (nx l.length q)).x (ptAt l (nx l.length q)).y).bind fun t459 => (if t459 = true then (some false) else (apogeeref11_Simple.l2 k l l.length i ((q + 1 : Nat) : Int)))))) else ((apogeeref10_Meet.f k (ptAt l i).x (ptAt l i).y (ptAt l (nx l.length i)).x (ptAt l (nx l.length i)).y (ptAt l q).x (ptAt l q).y (ptAt l (nx l.length q)).x (ptAt l (nx l.length q)).y).bind fun t460 => (if t460 = true then (some false) else (apogeeref11_Simple.l2 k l l.length i ((q + 1 : Nat) : Int)))))
        (fun k => by simp only [apogeeref11_Simple.j5, w2]) (ev_ite (fun c => ?_) (fun c => ?_))
      · rw [if_pos (of_decide_eq_true c)]; exact tail (ref_on_ev _ _ _) (ref_on_ev _ _ _)
      · rw [if_neg (fun e => c (decide_eq_true e))]
        refine Ev.bind (ref_meet_ev _ _ _ _) (ev_ite (fun c => ?_) (fun c => ?_))
        · rw [c]; exact Ev.now _
        · rw [Bool.eq_false_iff.mpr c]; simpa using IH
    simp only [allF]
    refine Ev.step (f := fun k => if sameB l i q = true then (some false) else (if (q : Int) = (i : Int) + 1 then ((apogeeref10_On.f k (ptAt l (nx l.length q)).x (ptAt l (nx l.length q)).y (ptAt l i).x (ptAt l i).y (ptAt l (nx l.length i)).x (ptAt l (nx l.length i)).y).bind fun t456 => (if t456 = true then (some false) else ((apogeeref10_On.f k (ptAt l i).x (ptAt l i).y (ptAt l q).x (ptAt l q).y (ptAt l (nx l.length q)).x (ptAt l (nx l.length q)).y).bind fun t457 => (if t457 = true then (some false) else (apogeeref11_Simple.l2 k l l.length i ((q + 1 : Nat) : Int))))))
        else (if (i : Int) = 0 then (apogeeref11_Simple.j5 k l l.length i q ((q : Int) == (l.length : Int) - 1) (ptAt l i).x (ptAt l i).y (ptAt l (nx l.length i)).x (ptAt l (nx l.length i)).y (ptAt l q).x (ptAt l q).y (ptAt l (nx l.length q)).x (ptAt l (nx l.length q)).y) else (apogeeref11_Simple.j5 k l l.length i q false (ptAt l i).x (ptAt l i).y (ptAt l (nx l.length i)).x (ptAt l (nx l.length i)).y (ptAt l q).x (ptAt l q).y (ptAt l (nx l.length q)).x (ptAt l (nx l.length q)).y))))
      (fun k => by simp only [apogeeref11_Simple.j4, w1, w2, w3]) (ev_ite (fun c => ?_) (fun c => ?_))
    · rw [show pairB l i q = false by unfold pairB; rw [c]; rfl]; exact Ev.now _
    · rw [show pairB l i q = apartB l i q by unfold pairB; rw [Bool.eq_false_iff.mpr c]; rfl, Bool.and_assoc]
      unfold apartB
      refine ev_ite (fun c1 => ?_) (fun c1 => ?_)
      · rw [if_pos (by omega)]
        exact tail (ref_on_ev _ _ _) (ref_on_ev _ _ _)
      · rw [if_neg (by omega)]
        refine ev_ite (fun c2 => ?_) (fun c2 => ?_)
        · have e : decide (i = 0 ∧ q + 1 = l.length) = ((q : Int) == (l.length : Int) - 1) := by rw [Bool.eq_iff_iff]; simp only [decide_eq_true_eq, beq_iff_eq]; omega
          rw [e] at j5; exact j5
        · have e : decide (i = 0 ∧ q + 1 = l.length) = false := decide_eq_false (by omega)
          rw [e] at j5; exact j5
theorem ref_out (l : List S41) (hl : l.length ≤ 4611686018427387904) (d : Nat) :
    ∀ i : Nat, i + d = l.length → Ev (fun k => apogeeref11_Simple.l1 k l l.length i) (allF d i (fun a => allF (l.length - (a + 1)) (a + 1) (fun b => pairB l a b))) := by
  induction d with
  | zero =>
    intro i hi
    refine Ev.step (f := fun _ => some true) (fun k => ?_) (Ev.now _)
    simp only [apogeeref11_Simple.l1]; rw [if_neg (by omega)]
  | succ d ih =>
    intro i hi
    refine Ev.step (f := fun k => apogeeref11_Simple.l2 k l l.length i ((i + 1 : Nat) : Int)) (fun k => ?_) ?_
    · simp only [apogeeref11_Simple.l1]; rw [if_pos (by omega), w64 (by omega) (by omega)]; rfl
    · simp only [allF]; exact ref_in l hl i (by omega) _ (ih (i + 1) (by omega)) _ (i + 1) (by omega) (by omega)
theorem ref_ok (l : List S41) (hl : l.length ≤ 4611686018427387904) (R : Bool) (hR : Ev (fun k => apogeeref11_Simple.l1 k l l.length ((0 : Nat) : Int)) R) (d : Nat) :
    ∀ i : Nat, i + d = l.length → Ev (fun k => apogeeref11_Simple.l0 k l l.length i) (allF d i (fun a => decide (Ok (ptAt l a))) && R) := by
  induction d with
  | zero =>
    intro i hi
    refine Ev.step (f := fun k => apogeeref11_Simple.l1 k l l.length ((0 : Nat) : Int)) (fun k => ?_) (by simpa [allF] using hR)
    simp only [apogeeref11_Simple.l0]; rw [if_neg (by omega)]; rfl
  | succ d ih =>
    intro i hi
    refine Ev.step (f := fun k => if decide (Ok (ptAt l i)) = true then (apogeeref11_Simple.l0 k l l.length ((i + 1 : Nat) : Int)) else (some false)) (fun k => ?_) ?_
    · simp only [apogeeref11_Simple.l0]
      rw [if_pos (by omega), if_pos (by omega), if_pos (by omega), w64 (by omega) (by omega)]
      show ((apogeeref10_Right.f (ptAt l i).x (ptAt l i).y).bind _) = _
      rw [ref_right_one]; rfl
    · simp only [allF]
      refine ev_ite (fun c => ?_) (fun c => ?_)
      · rw [c]; simpa using ih (i + 1) (by omega)
      · rw [Bool.eq_false_iff.mpr c]; exact Ev.now _
theorem pairs_swap (n : Nat) (p : Nat → Nat → Bool) : allF n 0 (fun a => allF (n - (a + 1)) (a + 1) (fun b => p a b)) = allF n 0 (fun b => allF b 0 (fun a => p a b)) := by
  rw [Bool.eq_iff_iff]
  simp only [allF_iff]
  constructor
  · intro h b h1 h2 a h3 h4; exact h a (by omega) (by omega) b (by omega) (by omega)
  · intro h a h1 h2 b h3 h4; exact h b (by omega) (by omega) a (by omega) (by omega)
theorem ref_simple (l : List S41) (hl : l.length ≤ 4611686018427387904) : Ev (fun k => apogeeref11_Simple.f k l) (simpleS l) := by
  have hz : Ev (fun k => apogeeref11_Simple.j0 k l l.length true) false := Ev.step (f := fun _ => some false) (fun k => by simp only [apogeeref11_Simple.j0]; rw [if_pos trivial]) (Ev.now _)
  unfold simpleS
  refine Ev.congr (fun k => rfl) (ev_ite (fun c => ?_) (fun c => ?_))
  · rw [decide_eq_false (by omega)]; exact hz
  · rw [decide_eq_true (show 3 ≤ l.length by omega)]
    refine Ev.step (f := fun k => if decide ((l.length : Int) > 8) = true then (some false) else (apogeeref11_Simple.l0 k l l.length 0)) (fun k => by simp only [apogeeref11_Simple.j0]) (ev_ite (fun c2 => ?_) (fun c2 => ?_))
    · rw [decide_eq_false (by have := of_decide_eq_true c2; omega)]; exact Ev.now _
    · rw [decide_eq_true (show l.length ≤ 8 by have : ¬ ((l.length : Int) > 8) := fun e => c2 (decide_eq_true e); omega)]
      have h := ref_ok l hl _ (ref_out l hl l.length 0 (by omega)) l.length 0 (by omega)
      rw [pairs_swap] at h
      simpa [okB] using h
def Nr (p : Pt) : Prop := (-1073741824 ≤ p.x ∧ p.x ≤ 1073741824) ∧ (-1073741824 ≤ p.y ∧ p.y ≤ 1073741824)
instance (p : Pt) : Decidable (Nr p) := inferInstanceAs (Decidable (_ ∧ _))
def nrB (l : List S41) : Bool := allF l.length 0 (fun a => decide (Nr (ptAt l a)))
def rightS (l : List S41) : Bool := simpleS l && nrB l
theorem far_plain (p : Pt) (h : Ok p) : poly_far.f p.x p.y = some (!decide (Nr p)) := by
  unfold poly_far.f
  unfold Ok at h
  rw [w64 (x := -p.x) (by omega) (by omega), w64 (x := -p.y) (by omega) (by omega), mx_max, mx_max, mx_max]
  congr 1
  rw [Bool.eq_iff_iff]
  have hm : ∀ a b : Int, (max a b > 1073741824 ↔ a > 1073741824 ∨ b > 1073741824) := fun a b => by omega
  simp only [decide_eq_true_eq, Bool.not_eq_true', decide_eq_false_iff_not, hm]
  unfold Nr
  omega
theorem idx_far (l : List S41) (hl : l.length ≤ 4611686018427387904) (hok : okB l = true) (d : Nat) : ∀ i : Nat, i + d = l.length →
    ∃ r : Int, Ev (fun k => slices_IndexFunc_Point_F_poly_far.l0 k l l.length i) r ∧ decide (r ≥ 0) = !allF d i (fun a => decide (Nr (ptAt l a))) := by
  induction d with
  | zero =>
    intro i hi
    refine ⟨-1, Ev.step (f := fun _ => some (-1)) (fun k => ?_) (Ev.now _), rfl⟩
    simp only [slices_IndexFunc_Point_F_poly_far.l0]; rw [if_neg (by omega)]
  | succ d ih =>
    intro i hi
    obtain ⟨r, hr, hs⟩ := ih (i + 1) (by omega)
    have hoki : Ok (ptAt l i) := of_decide_eq_true ((allF_iff _ _ _).1 hok i (by omega) (by omega))
    have e : ∀ k, slices_IndexFunc_Point_F_poly_far.l0 (k + 1) l l.length i = if (!decide (Nr (ptAt l i))) = true then some (i : Int) else slices_IndexFunc_Point_F_poly_far.l0 k l l.length ((i + 1 : Nat) : Int) := by
      intro k
      simp only [slices_IndexFunc_Point_F_poly_far.l0]
      rw [if_pos (by omega), if_pos (by omega), if_pos (by omega), w64 (by omega) (by omega)]
      show ((poly_far.f (ptAt l i).x (ptAt l i).y).bind _) = _
      rw [far_plain _ hoki]; rfl
    simp only [allF]
    by_cases c : Nr (ptAt l i)
    · exact ⟨r, Ev.step (f := fun k => slices_IndexFunc_Point_F_poly_far.l0 k l l.length ((i + 1 : Nat) : Int)) (fun k => by rw [e k, decide_eq_true c]; rfl) hr, by rw [hs, decide_eq_true c]; rfl⟩
    · exact ⟨i, Ev.step (f := fun k => some (i : Int)) (fun k => by rw [e k, decide_eq_false c]; rfl) (Ev.now _), by rw [decide_eq_false c]; exact decide_eq_true (by omega)⟩
theorem simple_ok {l : List S41} (h : simpleS l = true) : okB l = true := by
  unfold simpleS at h; simp only [Bool.and_eq_true] at h; exact h.2.2.1
theorem prog_right (l : List S41) (hl : l.length ≤ 4611686018427387904) : Ev (fun k => poly_Right.f k l) (rightS l) := by
  unfold rightS
  refine Ev.congr (fun k => rfl) (Ev.bind (prog_simple l hl) (ev_ite (fun c => ?_) (fun c => ?_)))
  · obtain ⟨r, hr, hs⟩ := idx_far l hl (simple_ok c) l.length 0 (by omega)
    rw [c, Bool.true_and]
    refine Ev.bind (a := decide (r ≥ 0)) (Ev.bind hr (Ev.now _)) ?_
    rw [hs, Bool.not_not]; exact Ev.now _
  · rw [Bool.eq_false_iff.mpr c]; exact Ev.now _
theorem ref_right_loop (l : List S41) (hl : l.length ≤ 8) (d : Nat) :
    ∀ i : Nat, i + d = l.length → Ev (fun k => apogeeref11_Right.l0 k l i) (allF d i (fun a => decide (Nr (ptAt l a))) && simpleS l) := by
  have hs : ∀ i : Nat, Ev (fun k => apogeeref11_Right.j1 k l i false) (simpleS l) := fun i =>
    Ev.step (f := fun k => (apogeeref11_Simple.f k l).bind fun t => (some t)) (fun k => by simp only [apogeeref11_Right.j1]; rw [if_neg (by decide)]) (Ev.bind (ref_simple l (by omega)) (Ev.now _))
  induction d with
  | zero =>
    intro i hi
    refine Ev.step (f := fun k => apogeeref11_Right.j1 k l i false) (fun k => ?_) (by simpa [allF] using hs i)
    simp only [apogeeref11_Right.l0]; rw [if_neg (by omega)]
  | succ d ih =>
    intro i hi
    refine Ev.step (f := fun k => apogeeref11_Right.j1 k l i true) (fun k => ?_) ?_
    · simp only [apogeeref11_Right.l0]; rw [if_pos (by omega), decide_eq_true (by omega)]
    refine Ev.step (f := fun k => if (ptAt l i).x < (-1073741824) then (some false) else (if (ptAt l i).x > 1073741824 then (some false) else (if (ptAt l i).y < (-1073741824) then (some false) else (if (ptAt l i).y > 1073741824 then (some false) else (apogeeref11_Right.l0 k l ((i + 1 : Nat) : Int)))))) (fun k => ?_) ?_
    · simp only [apogeeref11_Right.j1]; rw [if_pos trivial, if_pos (by omega), if_pos (by omega), w64 (by omega) (by omega)]; rfl
    · simp only [allF]
      have no : ¬ Nr (ptAt l i) → Ev (fun _ => some false) (decide (Nr (ptAt l i)) && allF d (i + 1) (fun a => decide (Nr (ptAt l a))) && simpleS l) := fun h => by rw [decide_eq_false h]; exact Ev.now _
      refine ev_ite (fun c => no (by unfold Nr; omega)) (fun c1 => ev_ite (fun c => no (by unfold Nr; omega)) (fun c2 => ev_ite (fun c => no (by unfold Nr; omega)) (fun c3 => ev_ite (fun c => no (by unfold Nr; omega)) (fun c4 => ?_))))
      rw [decide_eq_true (show Nr (ptAt l i) by unfold Nr; omega)]; simpa using ih (i + 1) (by omega)
theorem ref_right (l : List S41) (hl : l.length ≤ 4611686018427387904) : Ev (fun k => apogeeref11_Right.f k l) (rightS l) := by
  unfold rightS
  by_cases c : l.length ≤ 8
  · have h := ref_right_loop l c l.length 0 (by omega)
    rw [Bool.and_comm] at h
    exact h
  · have hs : simpleS l = false := by unfold simpleS; rw [decide_eq_false c]; simp
    refine Ev.step (f := fun k => apogeeref11_Right.j1 k l 0 false) (fun k => ?_) (Ev.step (f := fun k => (apogeeref11_Simple.f k l).bind fun t => (some t)) (fun k => by simp only [apogeeref11_Right.j1]; rw [if_neg (by decide)]) ?_)
    · show apogeeref11_Right.l0 (k + 1) l 0 = _
      simp only [apogeeref11_Right.l0]; rw [if_pos (by omega), decide_eq_false (by omega)]
    · rw [hs, Bool.false_and, ← hs]; exact Ev.bind (ref_simple l hl) (Ev.now _)
end Go.Proofs.Ytjmibjmlihmglaa.Q
