/- Rules: which one is wrong first, by the program and by the reference. -/
import Derived.Test.YtjmibjmlihmglaaGx0
import Derived.Test.YtjmibjmlihmglaaGx11
import Derived.Test.YtjmibjmlihmglaaGx12
import Derived.Test.YtjmibjmlihmglaaGx18
import Derived.Test.YtjmibjmlihmglaaGx19
import Derived.Test.YtjmibjmlihmglaaGx3
import Derived.Test.YtjmibjmlihmglaaGx8
import Derived.Test.YtjmibjmlihmglaaGx9
import Derived.Test.YtjmibjmlihmglaaArith
import Derived.Test.YtjmibjmlihmglaaWideBase
import Derived.Test.YtjmibjmlihmglaaWide128
import Derived.Test.YtjmibjmlihmglaaWideMul
import Derived.Test.YtjmibjmlihmglaaGeoBase
import Derived.Test.YtjmibjmlihmglaaPoint
import Derived.Test.YtjmibjmlihmglaaPoly
namespace Go.Proofs.Ytjmibjmlihmglaa.Q
open Go.RowKit Go.Proofs.Ytjmibjmlihmglaa.G Go.Proofs.Ytjmibjmlihmglaa.Geo Go.Proofs.YtjmibjmlihmglaaW.PrintWords Go.Proofs.YtjmibjmlihmglaaW.PrintLast Go.Proofs.YtjmibjmlihmglaaW.PrintMore
set_option linter.unusedVariables false
set_option linter.unusedSimpArgs false
def wi (n lo hi : Int) : Bool := decide (lo ≤ n ∧ n ≤ hi)
theorem within_i (n lo hi : Int) : rules_within_int.f n lo hi = some (wi n lo hi) := by
  unfold rules_within_int.f wi
  by_cases c : n ≥ lo
  · rw [if_pos c]; congr 1; apply decide_eq_decide.mpr; omega
  · rw [if_neg c]; congr 1; symm; apply decide_eq_false; omega
theorem within_l (n lo hi : Int) : rules_within_int64.f n lo hi = some (wi n lo hi) := by
  unfold rules_within_int64.f wi
  by_cases c : n ≥ lo
  · rw [if_pos c]; congr 1; apply decide_eq_decide.mpr; omega
  · rw [if_neg c]; congr 1; symm; apply decide_eq_false; omega
theorem within_r (n lo hi : Int) : apogeeref13_within.f n lo hi = some (wi n lo hi) := by
  unfold apogeeref13_within.f wi
  by_cases c : n ≥ lo
  · rw [if_pos c]; congr 1; apply decide_eq_decide.mpr; omega
  · rw [if_neg c]; congr 1; symm; apply decide_eq_false; omega
def phaseS (l : List S41) (g v m u : Int) : Bool := rightS l && (wi g 1 100 && (wi v 1 65536 && (wi m 1 1000000 && wi u 0 1073741824)))
theorem ite_and {a b : Bool} : (if a = true then some b else some false) = some (a && b) := by cases a <;> rfl
theorem prog_phase (l : List S41) (hl : l.length ≤ 4611686018427387904) (g v m u : Int) : Ev (fun k => rules_RightPhase.f k l g v m u) (phaseS l g v m u) := by
  refine Ev.congr (f := fun k => (poly_Right.f k l).bind fun t => if t = true then some (wi g 1 100 && (wi v 1 65536 && (wi m 1 1000000 && wi u 0 1073741824))) else some false) (fun k => ?_) (Ev.bind (prog_right l hl) ?_)
  · unfold rules_RightPhase.f
    simp only [within_i, within_l, Option.bind_some, ite_and]
  · unfold phaseS; simp only [ite_and]; exact Ev.now _
theorem ref_phase (l : List S41) (hl : l.length ≤ 4611686018427387904) (g v m u : Int) : Ev (fun k => apogeeref13_RightPhase.f k l g v m u) (phaseS l g v m u) := by
  refine Ev.congr (f := fun k => (apogeeref11_Right.f k l).bind fun t => if t = true then some (wi g 1 100 && (wi v 1 65536 && (wi m 1 1000000 && wi u 0 1073741824))) else some false) (fun k => ?_) (Ev.bind (ref_right l hl) ?_)
  · unfold apogeeref13_RightPhase.f
    simp only [within_r, Option.bind_some, ite_and]
  · unfold phaseS; simp only [ite_and]; exact Ev.now _
def phAt (l : List S30) (i : Nat) : S30 := rd_T30 l (i : Int)
theorem phAt_get (l : List S30) (i : Nat) (h : i < l.length) : phAt l i = l[i] := by
  unfold phAt rd_T30
  rw [Int.toNat_natCast, List.getD_eq_getElem?_getD, List.getElem?_eq_getElem h]; rfl
def pB (p : S30) : Bool := phaseS p.f0 p.f1 p.f2 p.f3 p.f4
def Small (l : List S30) : Prop := l.length ≤ 4611686018427387904 ∧ ∀ p ∈ l, p.f0.length ≤ 4611686018427387904
theorem small_at {l : List S30} (h : Small l) (i : Nat) (hi : i < l.length) : (phAt l i).f0.length ≤ 4611686018427387904 := by
  rw [phAt_get l i hi]; exact h.2 _ (List.getElem_mem hi)
theorem idx_wrong (l : List S30) (hs : Small l) (d : Nat) : ∀ i : Nat, i + d = l.length →
    ∃ r : Int, Ev (fun k => slices_IndexFunc_Phase_F_rules_Wrong_1.l0 k l l.length i) r ∧ decide (r ≥ 0) = !allF d i (fun a => pB (phAt l a)) := by
  have hl := hs.1
  induction d with
  | zero =>
    intro i hi
    refine ⟨-1, Ev.step (f := fun _ => some (-1)) (fun k => ?_) (Ev.now _), rfl⟩
    simp only [slices_IndexFunc_Phase_F_rules_Wrong_1.l0]; rw [if_neg (by omega)]
  | succ d ih =>
    intro i hi
    obtain ⟨r, hr, hq⟩ := ih (i + 1) (by omega)
    have e : ∀ k, slices_IndexFunc_Phase_F_rules_Wrong_1.l0 (k + 1) l l.length i = (rules_Wrong_1.f k (phAt l i).f0 (phAt l i).f1 (phAt l i).f2 (phAt l i).f3 (phAt l i).f4).bind fun t => (if t = true then some (i : Int) else slices_IndexFunc_Phase_F_rules_Wrong_1.l0 k l l.length ((i + 1 : Nat) : Int)) := by
      intro k
      simp only [slices_IndexFunc_Phase_F_rules_Wrong_1.l0]
      rw [if_pos (by omega), if_pos (by omega), if_pos (by omega), w64 (by omega) (by omega)]; rfl
    have h1 : Ev (fun k => rules_Wrong_1.f k (phAt l i).f0 (phAt l i).f1 (phAt l i).f2 (phAt l i).f3 (phAt l i).f4) (!pB (phAt l i)) :=
      Ev.congr (fun k => rfl) (Ev.bind (prog_phase _ (small_at hs i (by omega)) _ _ _ _) (Ev.now _))
    simp only [allF]
    cases c : pB (phAt l i) with
    | true =>
      rw [c] at h1
      exact ⟨r, Ev.step e (Ev.bind h1 (Ev.congr (fun k => if_neg (by decide)) hr)), by rw [hq]; rfl⟩
    | false =>
      rw [c] at h1
      exact ⟨i, Ev.step e (Ev.bind h1 (Ev.congr (f := fun _ => some (i : Int)) (fun k => if_pos (by decide)) (Ev.now _))), decide_eq_true (by omega)⟩
def tailS (n : Nat) (e s a li sa : Int) : Int :=
  if wi e 0 1024 = true then (if wi s 1 65536 = true then (if wi a 1 50 = true then (if wi li 1 1073741824 = true then (if wi sa 0 (n : Int) = true then 0 else 8) else 7) else 6) else 5) else 4
def limS (n d g : Int) : Bool := wi n 1 50 && (wi d 1 50 && wi g 1 50)
def allS (l : List S30) : Bool := allF l.length 0 (fun a => pB (phAt l a))
def wrongS (l : List S30) (n d g e s a li sa : Int) : Int :=
  if wi (l.length : Int) 1 4 = true then (if allS l = true then (if limS n d g = true then tailS l.length e s a li sa else 3) else 2) else 1
theorem limits_plain (n d g e s a li sa : Int) : rules_limits.f n d g e s a li sa = some (limS n d g) := by
  unfold rules_limits.f
  simp only [within_i, Option.bind_some, ite_and, mn_min, mx_max]
  congr 1
  rw [Bool.eq_iff_iff]; unfold limS wi
  simp only [Bool.and_eq_true, decide_eq_true_eq]
  omega
theorem some_ite {α : Type} {p : Prop} [Decidable p] (a b : α) : (if p then some a else some b) = some (if p then a else b) := by by_cases c : p <;> simp [c]
theorem prog_wrong (l : List S30) (hs : Small l) (n d g e s a li sa : Int) : Ev (fun k => rules_Wrong.f k l n d g e s a li sa) (wrongS l n d g e s a li sa) := by
  refine Ev.congr (f := fun k => if wi (l.length : Int) 1 4 = true then ((slices_ContainsFunc_Phase_F_rules_Wrong_1.f k l).bind fun t => (if t = true then (some 2) else (some (if limS n d g = true then tailS l.length e s a li sa else 3)))) else (some 1)) (fun k => ?_) ?_
  · unfold rules_Wrong.f
    simp only [within_i, within_l, limits_plain, Option.bind_some, some_ite, tailS]
  · unfold wrongS
    by_cases c : wi (l.length : Int) 1 4 = true
    · rw [if_pos c]
      refine Ev.congr (fun k => if_pos c) ?_
      obtain ⟨r, hr, hq⟩ := idx_wrong l hs l.length 0 (by omega)
      refine Ev.bind (a := decide (r ≥ 0)) (Ev.congr (fun k => rfl) (Ev.bind hr (Ev.now _))) ?_
      rw [hq]
      unfold allS
      cases allF l.length 0 (fun a => pB (phAt l a)) <;> exact Ev.now _
    · rw [if_neg c]; exact Ev.congr (f := fun _ => some 1) (fun k => if_neg c) (Ev.now _)
theorem ref_wrong_loop (l : List S30) (hs : Small l) (n d g e s a li sa : Int) (m : Nat) :
    ∀ i : Nat, i + m = l.length → Ev (fun k => apogeeref13_Wrong.l0 k i l n d g e s a li sa) (if allF m i (fun a => pB (phAt l a)) = true then (if limS n d g = true then tailS l.length e s a li sa else 3) else 2) := by
  have hl := hs.1
  have j2 : ∀ b : Bool, Ev (fun k => apogeeref13_Wrong.j2 k b l n d g e s a li sa) (if b = true then 3 else tailS l.length e s a li sa) := fun b =>
    Ev.step (f := fun _ => some (if b = true then 3 else tailS l.length e s a li sa)) (fun k => by simp only [apogeeref13_Wrong.j2, within_r, Option.bind_some, some_ite, tailS]) (Ev.now _)
  induction m with
  | zero =>
    intro i hi
    simp only [allF, if_true]
    refine Ev.step (f := fun k => apogeeref13_Wrong.j2 k (!limS n d g) l n d g e s a li sa) (fun k => ?_) ?_
    · simp only [apogeeref13_Wrong.l0, within_r, Option.bind_some]; rw [if_neg (by omega)]
      unfold limS; cases wi n 1 50 <;> cases wi d 1 50 <;> rfl
    · have h := j2 (!limS n d g)
      have e : (if (!limS n d g) = true then (3 : Int) else tailS l.length e s a li sa) = (if limS n d g = true then tailS l.length e s a li sa else 3) := by cases limS n d g <;> rfl
      rw [e] at h; exact h
  | succ m ih =>
    intro i hi
    refine Ev.step (f := fun k => (apogeeref13_RightPhase.f k (phAt l i).f0 (phAt l i).f1 (phAt l i).f2 (phAt l i).f3 (phAt l i).f4).bind fun t => (if t = true then (apogeeref13_Wrong.l0 k ((i + 1 : Nat) : Int) l n d g e s a li sa) else (some 2))) (fun k => ?_) (Ev.bind (ref_phase _ (small_at hs i (by omega)) _ _ _ _) (ev_ite (fun c => ?_) (fun c => ?_)))
    · simp only [apogeeref13_Wrong.l0]; rw [if_pos (by omega), if_pos (by omega), w64 (by omega) (by omega)]; rfl
    · rw [show allF (m + 1) i (fun a => pB (phAt l a)) = allF m (i + 1) (fun a => pB (phAt l a)) by show (pB (phAt l i) && _) = _; rw [show pB (phAt l i) = true from c]; rfl]
      exact ih (i + 1) (by omega)
    · rw [show allF (m + 1) i (fun a => pB (phAt l a)) = false by show (pB (phAt l i) && _) = _; rw [show pB (phAt l i) = false from Bool.eq_false_iff.mpr c]; rfl]
      exact Ev.now _
theorem ref_wrong (l : List S30) (hs : Small l) (n d g e s a li sa : Int) : Ev (fun k => apogeeref13_Wrong.f k l n d g e s a li sa) (wrongS l n d g e s a li sa) := by
  have hz : Ev (fun k => apogeeref13_Wrong.j0 k true l n d g e s a li sa) 1 := Ev.step (f := fun _ => some 1) (fun k => by simp only [apogeeref13_Wrong.j0]; rw [if_pos trivial]) (Ev.now _)
  unfold wrongS
  refine Ev.congr (fun k => rfl) (ev_ite (fun c => ?_) (fun c => ?_))
  · rw [if_neg (by unfold wi; simp only [decide_eq_true_eq]; omega)]; exact hz
  · by_cases c2 : (l.length : Int) > 4
    · rw [if_neg (by unfold wi; simp only [decide_eq_true_eq]; omega), decide_eq_true c2]; exact hz
    · rw [if_pos (by unfold wi; simp only [decide_eq_true_eq]; omega), decide_eq_false c2]
      refine Ev.step (f := fun k => apogeeref13_Wrong.l0 k ((0 : Nat) : Int) l n d g e s a li sa) (fun k => by simp only [apogeeref13_Wrong.j0]; rw [if_neg (by decide)]; rfl) (ref_wrong_loop l hs n d g e s a li sa l.length 0 (by omega))
def fewS (l : List S30) : Bool := allF l.length 0 (fun a => decide ((phAt l a).f0.length ≤ 12)) && decide (l.length ≤ 8)
theorem few_loop (l : List S30) (hl : l.length ≤ 9223372036854775807) (n d g e s a li sa : Int) (m : Nat) :
    ∀ i : Nat, i + m = l.length → Ev (fun k => apogeeref13_Few.l0 k i l n d g e s a li sa) (allF m i (fun a => decide ((phAt l a).f0.length ≤ 12)) && decide (l.length ≤ 8)) := by
  induction m with
  | zero =>
    intro i hi
    refine Ev.step (f := fun _ => some (decide (l.length ≤ 8))) (fun k => ?_) (by simpa [allF] using Ev.now (decide (l.length ≤ 8)))
    simp only [apogeeref13_Few.l0]; rw [if_neg (by omega)]; congr 1; apply decide_eq_decide.mpr; omega
  | succ m ih =>
    intro i hi
    refine Ev.step (f := fun k => if ((phAt l i).f0.length : Int) > 12 then (some false) else (apogeeref13_Few.l0 k ((i + 1 : Nat) : Int) l n d g e s a li sa)) (fun k => ?_) (ev_ite (fun c => ?_) (fun c => ?_))
    · simp only [apogeeref13_Few.l0]; rw [if_pos (by omega), if_pos (by omega), w64 (by omega) (by omega)]; rfl
    · simp only [allF]; rw [decide_eq_false (show ¬ (phAt l i).f0.length ≤ 12 by omega)]; exact Ev.now _
    · simp only [allF]; rw [decide_eq_true (show (phAt l i).f0.length ≤ 12 by omega)]; simpa using ih (i + 1) (by omega)
theorem few_ev (l : List S30) (hl : l.length ≤ 9223372036854775807) (n d g e s a li sa : Int) : Ev (fun k => apogeeref13_Few.f k l n d g e s a li sa) (fewS l) :=
  few_loop l hl n d g e s a li sa l.length 0 (by omega)
theorem few_small {l : List S30} (h : fewS l = true) : l.length ≤ 8 ∧ ∀ p ∈ l, p.f0.length ≤ 12 := by
  unfold fewS at h; simp only [Bool.and_eq_true, decide_eq_true_eq] at h
  refine ⟨h.2, fun p hp => ?_⟩
  obtain ⟨i, hi, rfl⟩ := List.getElem_of_mem hp
  have := of_decide_eq_true ((allF_iff _ _ _).1 h.1 i (by omega) (by omega))
  rw [phAt_get l i hi] at this; exact this
theorem small_few {l : List S30} (h : fewS l = true) : Small l := ⟨by have := (few_small h).1; omega, fun p hp => by have := (few_small h).2 p hp; omega⟩
theorem wrong_zero {l : List S30} {n d g e s a li sa : Int} (h : wrongS l n d g e s a li sa = 0) : (1 ≤ n ∧ n ≤ 50) ∧ (1 ≤ d ∧ d ≤ 50) ∧ (1 ≤ g ∧ g ≤ 50) ∧ (0 ≤ e ∧ e ≤ 1024) ∧ (1 ≤ s ∧ s ≤ 65536) ∧ (1 ≤ a ∧ a ≤ 50) ∧ (1 ≤ li ∧ li ≤ 1073741824) ∧ (0 ≤ sa ∧ sa ≤ (l.length : Int)) ∧ (1 ≤ l.length ∧ l.length ≤ 4) ∧ allS l = true := by
  unfold wrongS at h
  split at h <;> try omega
  rename_i h1
  split at h <;> try omega
  rename_i h2
  split at h <;> try omega
  rename_i h3
  unfold tailS at h
  split at h <;> try omega
  rename_i h4
  split at h <;> try omega
  rename_i h5
  split at h <;> try omega
  rename_i h6
  split at h <;> try omega
  rename_i h7
  split at h <;> try omega
  rename_i h8
  unfold limS wi at *
  simp only [Bool.and_eq_true, decide_eq_true_eq] at *
  refine ⟨h3.1, h3.2.1, h3.2.2, h4, h5, h6, h7, h8, by omega, h2⟩
theorem awake13 : Ev (fun k => apogeelaw13_awake.f k) true := ⟨100, fun k hk => at_rounds (fun k => apogeelaw13_awake.mono k) hk (by decide +kernel)⟩
theorem ev_some {f : Nat → Option Bool} (h : Ev f true) : ∃ k, f k = some true := by obtain ⟨K, h⟩ := h; exact ⟨K, h K (Nat.le_refl _)⟩
end Go.Proofs.Ytjmibjmlihmglaa.Q
