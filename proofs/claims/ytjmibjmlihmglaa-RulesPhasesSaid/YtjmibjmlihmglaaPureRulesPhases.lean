/- RulesPhases, in plain numbers: each phase may be; one more than may be is too many; one taken away leaves rules that may be; no condition. -/
import Derived.Test.YtjmibjmlihmglaaGx0
import Derived.Test.YtjmibjmlihmglaaGx11
import Derived.Test.YtjmibjmlihmglaaGx20
import Derived.Test.YtjmibjmlihmglaaGx3
import Derived.Test.YtjmibjmlihmglaaGx8
import Derived.Test.YtjmibjmlihmglaaGx9
import Derived.Test.YtjmibjmlihmglaaArith
import Derived.Test.YtjmibjmlihmglaaWideBase
import Derived.Test.YtjmibjmlihmglaaWide128
import Derived.Test.YtjmibjmlihmglaaWideMul
import Derived.Test.YtjmibjmlihmglaaGeoBase
import Derived.Test.YtjmibjmlihmglaaPoint
import Derived.Test.YtjmibjmlihmglaaPoly
import Derived.Test.YtjmibjmlihmglaaRules
import Derived.Test.YtjmibjmlihmglaaStRulesPhases
namespace Go.Proofs.Ytjmibjmlihmglaa.Pure
open Go.RowKit Go.Proofs.Ytjmibjmlihmglaa.G Go.Proofs.Ytjmibjmlihmglaa.Q Go.Proofs.Ytjmibjmlihmglaa.Geo Go.Proofs.YtjmibjmlihmglaaW.PrintWords Go.Proofs.YtjmibjmlihmglaaW.PrintLast Go.Proofs.YtjmibjmlihmglaaW.PrintMore
set_option linter.unusedVariables false

theorem clone_small (l : List S41) (h : l.length ≤ 12) : slices_Clone_Point.f l = some l := by
  unfold slices_Clone_Point.f
  simp only [Option.bind_some, List.length_nil, List.nil_append]; rw [if_pos (by omega)]

theorem copy_loop (l : List S30) (h : l.length ≤ 8 ∧ ∀ p ∈ l, p.f0.length ≤ 12) (n d g e s a li sa : Int) (m : Nat) :
    ∀ i : Nat, i + m = l.length → Ev (fun k => rules_Copy.l0 k l.length i l n d g e s a li sa) (l, n, d, g, e, s, a, li, sa) := by
  obtain ⟨h8, h12⟩ := h
  induction m with
  | zero => intro i hi; exact Ev.step (f := fun _ => some (l, n, d, g, e, s, a, li, sa)) (fun k => by simp only [rules_Copy.l0]; rw [if_neg (by omega)]) (Ev.now _)
  | succ m ih =>
    intro i hi
    have hlt : i < l.length := by omega
    refine Ev.step (f := fun k => rules_Copy.l0 k l.length ((i + 1 : Nat) : Int) l n d g e s a li sa) (fun k => ?_) (ih (i + 1) (by omega))
    simp only [rules_Copy.l0]
    rw [if_pos (by omega), if_pos (by omega), if_pos (by omega), w64 (by omega) (by omega)]
    have hp : rd_T30 l (i : Int) = l[i] := phAt_get l i hlt
    rw [hp, clone_small _ (h12 _ (List.getElem_mem hlt))]
    simp only [Option.bind_some, Int.toNat_natCast]
    rw [show l.set i (⟨l[i].f0, l[i].f1, l[i].f2, l[i].f3, l[i].f4⟩ : S30) = l from List.set_getElem_self hlt]; rfl
theorem copy_ev (l : List S30) (h : l.length ≤ 8 ∧ ∀ p ∈ l, p.f0.length ≤ 12) (n d g e s a li sa : Int) : Ev (fun k => rules_Copy.f k l n d g e s a li sa) (l, n, d, g, e, s, a, li, sa) := by
  refine Ev.congr (f := fun k => rules_Copy.l0 k l.length ((0 : Nat) : Int) l n d g e s a li sa) (fun k => ?_) (copy_loop l h n d g e s a li sa l.length 0 (by omega))
  unfold rules_Copy.f slices_Clone_Phase.f
  simp only [Option.bind_some, List.length_nil, List.nil_append]
  rw [if_pos (by omega)]; rfl

theorem tm_bounds (x n : Int) (hn : 0 < n) : 0 ≤ Int.tmod (IntKind.u64.wrap x) n ∧ Int.tmod (IntKind.u64.wrap x) n < n := by
  rw [u64w]
  exact ⟨Int.tmod_nonneg _ (by omega), Int.tmod_lt_of_pos _ hn⟩

theorem parts {l : List S30} {n d g e s a li sa : Int} (h : wrongS l n d g e s a li sa = 0) :
    wi (l.length : Int) 1 4 = true ∧ allS l = true ∧ wi n 1 50 = true ∧ wi d 1 50 = true ∧ wi g 1 50 = true ∧ wi e 0 1024 = true ∧ wi s 1 65536 = true ∧ wi a 1 50 = true ∧ wi li 1 1073741824 = true ∧ wi sa 0 (l.length : Int) = true := by
  have := wrong_zero h
  unfold wi
  simp only [decide_eq_true_eq]
  refine ⟨by omega, this.2.2.2.2.2.2.2.2.2, by omega, by omega, by omega, by omega, by omega, by omega, by omega, by omega⟩

theorem allS_iff (l : List S30) : allS l = true ↔ ∀ p ∈ l, pB p = true := by
  unfold allS
  rw [allF_iff]
  constructor
  · intro h p hp
    obtain ⟨i, hi, rfl⟩ := List.getElem_of_mem hp
    have := h i (by omega) (by omega)
    rwa [phAt_get l i hi] at this
  · intro h a _ ha
    rw [phAt_get l a (by omega)]
    exact h _ (List.getElem_mem _)

theorem loop0 (x : S24) (i : Int) (h12 : x.f0.length ≤ 8 ∧ ∀ p ∈ x.f0, p.f0.length ≤ 12) (hb : ∀ p ∈ x.f0, pB p = true)
    (h : Ev (fun k => apogeelaw13_RulesPhases.l1 k i x.f0 x.f1 x.f2 x.f3 x.f4 x.f5 x.f6 x.f7 x.f8 x.f0 x.f1 x.f2 x.f3 x.f4 x.f5 x.f6 x.f7 x.f8) true) :
    ∀ m q : Nat, q + m = x.f0.length → Ev (fun k => apogeelaw13_RulesPhases.l0 k i (x.f0.length : Int) (q : Int) x.f0 x.f1 x.f2 x.f3 x.f4 x.f5 x.f6 x.f7 x.f8) true := by
  intro m
  induction m with
  | zero =>
    intro q hq
    refine Ev.step (f := fun k => (rules_Copy.f k x.f0 x.f1 x.f2 x.f3 x.f4 x.f5 x.f6 x.f7 x.f8).bind fun bt498 => (apogeelaw13_RulesPhases.l1 k i x.f0 x.f1 x.f2 x.f3 x.f4 x.f5 x.f6 x.f7 x.f8 bt498.1 bt498.2.1 bt498.2.2.1 bt498.2.2.2.1 bt498.2.2.2.2.1 bt498.2.2.2.2.2.1 bt498.2.2.2.2.2.2.1 bt498.2.2.2.2.2.2.2.1 bt498.2.2.2.2.2.2.2.2)) (fun k => ?_) (Ev.bind (copy_ev x.f0 h12 x.f1 x.f2 x.f3 x.f4 x.f5 x.f6 x.f7 x.f8) h)
    simp only [apogeelaw13_RulesPhases.l0]
    rw [if_neg (by omega)]
  | succ m ih =>
    intro q hq
    have hlt : q < x.f0.length := by omega
    have hmem := List.getElem_mem hlt
    have hp : rules_Phase.f x.f0 x.f1 x.f2 x.f3 x.f4 x.f5 x.f6 x.f7 x.f8 (q : Int) = some (x.f0[q].f0, x.f0[q].f1, x.f0[q].f2, x.f0[q].f3, x.f0[q].f4, true) := by
      unfold rules_Phase.f
      rw [if_neg (by omega), if_neg (by omega), if_pos (by omega), if_pos (by omega)]
      rw [show rd_T30 x.f0 (q : Int) = x.f0[q] from phAt_get x.f0 q hlt, clone_small _ (h12.2 _ hmem)]
      rfl
    refine Ev.step (f := fun k => (rules_RightPhase.f k x.f0[q].f0 x.f0[q].f1 x.f0[q].f2 x.f0[q].f3 x.f0[q].f4).bind fun t => (if t = true then apogeelaw13_RulesPhases.l0 k i (x.f0.length : Int) ((q + 1 : Nat) : Int) x.f0 x.f1 x.f2 x.f3 x.f4 x.f5 x.f6 x.f7 x.f8 else none)) (fun k => ?_) ?_
    · simp only [apogeelaw13_RulesPhases.l0]
      rw [if_pos (by omega), hp]
      simp only [Option.bind_some]
      rw [if_pos trivial, w64 (by omega) (by omega)]; rfl
    · have hl2 : x.f0[q].f0.length ≤ 4611686018427387904 := by have := h12.2 _ hmem; omega
      refine Ev.bind (prog_phase _ hl2 _ _ _ _) ?_
      rw [show phaseS x.f0[q].f0 x.f0[q].f1 x.f0[q].f2 x.f0[q].f3 x.f0[q].f4 = true from hb _ hmem]
      exact Ev.congr (fun k => if_pos rfl) (ih (q + 1) (by omega))

theorem loop1 (x : S24) (i : Int) (h : ∀ l : List S30, l.length = 5 → (∀ p ∈ l, p.f0.length ≤ 12) → Ev (fun k => apogeelaw13_RulesPhases.l1 k i x.f0 x.f1 x.f2 x.f3 x.f4 x.f5 x.f6 x.f7 x.f8 l x.f1 x.f2 x.f3 x.f4 x.f5 x.f6 x.f7 x.f8) true) :
    ∀ (m : Nat) (l : List S30), l.length + m = 5 → 1 ≤ l.length → (∀ p ∈ l, p.f0.length ≤ 12) → Ev (fun k => apogeelaw13_RulesPhases.l1 k i x.f0 x.f1 x.f2 x.f3 x.f4 x.f5 x.f6 x.f7 x.f8 l x.f1 x.f2 x.f3 x.f4 x.f5 x.f6 x.f7 x.f8) true := by
  intro m
  induction m with
  | zero => intro l hl _ h12; exact h l (by omega) h12
  | succ m ih =>
    intro l hl h1 h12
    refine Ev.step (f := fun k => apogeelaw13_RulesPhases.l1 k i x.f0 x.f1 x.f2 x.f3 x.f4 x.f5 x.f6 x.f7 x.f8 (l ++ [(⟨(rd_T30 l 0).f0, (rd_T30 l 0).f1, (rd_T30 l 0).f2, (rd_T30 l 0).f3, (rd_T30 l 0).f4⟩ : S30)]) x.f1 x.f2 x.f3 x.f4 x.f5 x.f6 x.f7 x.f8) (fun k => ?_) (ih _ (by simp only [List.length_append, List.length_singleton]; omega) (by simp only [List.length_append]; omega) (fun p hp => ?_))
    · simp only [apogeelaw13_RulesPhases.l1]
      rw [if_pos (by omega), if_neg (by omega), if_pos (by omega), if_pos (by omega)]
    · rcases List.mem_append.1 hp with hp | hp
      · exact h12 p hp
      · obtain rfl := List.mem_singleton.1 hp
        show (rd_T30 l 0).f0.length ≤ 12
        rw [show rd_T30 l 0 = l[0] from phAt_get l 0 (by omega)]
        exact h12 _ (List.getElem_mem _)

theorem RulesPhases : G.RulesPhases.Pure := by
  intro x i hx hi
  have hl : x.f0.length ≤ 9223372036854775807 := hx.1.1
  apply ev_some
  have no : Ev (fun k => apogeelaw13_RulesPhases.j0 k i true x.f0 x.f1 x.f2 x.f3 x.f4 x.f5 x.f6 x.f7 x.f8) true :=
    Ev.step (f := fun k => (apogeelaw13_awake.f k).bind fun t => (some t)) (fun k => by simp only [apogeelaw13_RulesPhases.j0]; rw [if_pos trivial]) (Ev.bind awake13 (Ev.now _))
  refine Ev.congr (fun k => rfl) (Ev.bind awake13 (Ev.congr (fun k => if_pos rfl) (Ev.bind (few_ev x.f0 hl x.f1 x.f2 x.f3 x.f4 x.f5 x.f6 x.f7 x.f8) (ev_ite (fun hf => ?_) (fun _ => no)))))
  have hs := small_few hf
  have h8 := few_small hf
  refine Ev.bind (ref_wrong x.f0 hs x.f1 x.f2 x.f3 x.f4 x.f5 x.f6 x.f7 x.f8) ?_
  by_cases c : wrongS x.f0 x.f1 x.f2 x.f3 x.f4 x.f5 x.f6 x.f7 x.f8 = 0
  case neg => rw [show (wrongS x.f0 x.f1 x.f2 x.f3 x.f4 x.f5 x.f6 x.f7 x.f8 != 0) = true from bne_iff_ne.mpr c]; exact no
  rw [show (wrongS x.f0 x.f1 x.f2 x.f3 x.f4 x.f5 x.f6 x.f7 x.f8 != 0) = false by rw [c]; rfl]
  obtain ⟨p0, p1, p2, p3, p4, p5, p6, p7, p8, p9⟩ := parts c
  have z := wrong_zero c
  have hb := (allS_iff x.f0).1 p1
  refine Ev.step (f := fun k => apogeelaw13_RulesPhases.l0 k i (x.f0.length : Int) ((0 : Nat) : Int) x.f0 x.f1 x.f2 x.f3 x.f4 x.f5 x.f6 x.f7 x.f8) (fun k => by simp only [apogeelaw13_RulesPhases.j0]; rw [if_neg (by decide)]; rfl) (loop0 x i h8 hb (loop1 x i (fun l h5 h12 => ?_) (5 - x.f0.length) x.f0 (by omega) (by omega) h8.2) x.f0.length 0 (by omega))
  have sl : Small l := ⟨by omega, fun p hp => by have := h12 p hp; omega⟩
  refine Ev.step (f := fun k => (rules_Copy.f k x.f0 x.f1 x.f2 x.f3 x.f4 x.f5 x.f6 x.f7 x.f8).bind fun bt514 => (if (bt514.1.length : Int) = (x.f0.length : Int) then (if (IntKind.u64.wrap ((bt514.1.length : Int))) = 0 then (none) else (if 0 ≤ (wrap64 (Int.tmod (IntKind.u64.wrap (i)) (IntKind.u64.wrap ((bt514.1.length : Int))))) then (if (wrap64 (Int.tmod (IntKind.u64.wrap (i)) (IntKind.u64.wrap ((bt514.1.length : Int))))) ≤ (bt514.1.length : Int) then (if 0 ≤ (wrap64 ((wrap64 (Int.tmod (IntKind.u64.wrap (i)) (IntKind.u64.wrap ((bt514.1.length : Int))))) + 1)) then (if (wrap64 ((wrap64 (Int.tmod (IntKind.u64.wrap (i)) (IntKind.u64.wrap ((bt514.1.length : Int))))) + 1)) ≤ (bt514.1.length : Int) then ((erG bt514.1 ((wrap64 (Int.tmod (IntKind.u64.wrap (i)) (IntKind.u64.wrap ((bt514.1.length : Int))))) : Int).toNat).bind fun y536 => (if (y536.length : Int) = 0 then ((rules_Wrong.f k l x.f1 x.f2 x.f3 x.f4 x.f5 x.f6 x.f7 x.f8).bind fun t539 => (if t539 = 1 then ((rules_Wrong.f k y536 bt514.2.1 bt514.2.2.1 bt514.2.2.2.1 bt514.2.2.2.2.1 bt514.2.2.2.2.2.1 bt514.2.2.2.2.2.2.1 bt514.2.2.2.2.2.2.2.1 (mn bt514.2.2.2.2.2.2.2.2 (y536.length : Int))).bind fun t540 => (some (t540 == 1))) else (none))) else ((rules_Wrong.f k l x.f1 x.f2 x.f3 x.f4 x.f5 x.f6 x.f7 x.f8).bind fun t541 => (if t541 = 1 then ((rules_Wrong.f k y536 bt514.2.1 bt514.2.2.1 bt514.2.2.2.1 bt514.2.2.2.2.1 bt514.2.2.2.2.2.1 bt514.2.2.2.2.2.2.1 bt514.2.2.2.2.2.2.2.1 (mn bt514.2.2.2.2.2.2.2.2 (y536.length : Int))).bind fun t542 => (some (t542 == 0))) else (none))))) else (none)) else (none)) else (none)) else (none))) else (none))) (fun k => by simp only [apogeelaw13_RulesPhases.l1]; rw [if_neg (by omega)]) (Ev.bind (copy_ev x.f0 h8 x.f1 x.f2 x.f3 x.f4 x.f5 x.f6 x.f7 x.f8) ?_)
  have t3 := tm_bounds i (x.f0.length : Int) (by omega)
  have eu : IntKind.u64.wrap (x.f0.length : Int) = (x.f0.length : Int) := by rw [u64w]; omega
  simp only [eu]
  rw [w64 (x := Int.tmod (IntKind.u64.wrap i) (x.f0.length : Int)) (by omega) (by omega)]
  generalize Int.tmod (IntKind.u64.wrap i) (x.f0.length : Int) = at3 at t3 ⊢
  obtain ⟨m, rfl⟩ : ∃ m : Nat, at3 = (m : Int) := ⟨at3.toNat, by omega⟩
  rw [w64 (x := (m : Int) + 1) (by omega) (by omega)]
  have hm : m < x.f0.length := by omega
  have he : (x.f0.eraseIdx m).length = x.f0.length - 1 := List.length_eraseIdx_of_lt hm
  refine Ev.congr (fun k => if_pos trivial) (Ev.congr (fun k => if_neg (by omega)) (Ev.congr (fun k => if_pos (by omega)) (Ev.congr (fun k => if_pos (by omega)) (Ev.congr (fun k => if_pos (by omega)) (Ev.congr (fun k => if_pos (by omega)) ?_)))))
  refine Ev.bind (a := x.f0.eraseIdx m) (Ev.congr (fun k => by unfold erG; rw [if_pos (by omega), Int.toNat_natCast]) (Ev.now _)) ?_
  have hmem : ∀ p ∈ x.f0.eraseIdx m, p ∈ x.f0 := fun p hp => List.mem_of_mem_eraseIdx hp
  have se : Small (x.f0.eraseIdx m) := ⟨by omega, fun p hp => hs.2 p (hmem p hp)⟩
  have w5 : wrongS l x.f1 x.f2 x.f3 x.f4 x.f5 x.f6 x.f7 x.f8 = 1 := by
    unfold wrongS
    rw [if_neg (by unfold wi; rw [decide_eq_true_eq]; omega)]
  have pl := prog_wrong l sl x.f1 x.f2 x.f3 x.f4 x.f5 x.f6 x.f7 x.f8
  rw [w5] at pl
  have pe := prog_wrong (x.f0.eraseIdx m) se x.f1 x.f2 x.f3 x.f4 x.f5 x.f6 x.f7 (mn x.f8 ((x.f0.eraseIdx m).length : Int))
  by_cases c0 : ((x.f0.eraseIdx m).length : Int) = 0
  · refine Ev.congr (fun k => if_pos c0) (Ev.bind pl (Ev.congr (fun k => if_pos rfl) (Ev.bind pe ?_)))
    rw [show wrongS (x.f0.eraseIdx m) x.f1 x.f2 x.f3 x.f4 x.f5 x.f6 x.f7 (mn x.f8 ((x.f0.eraseIdx m).length : Int)) = 1 by
      unfold wrongS
      rw [if_neg (by unfold wi; rw [decide_eq_true_eq]; omega)]]
    exact Ev.now _
  · refine Ev.congr (fun k => if_neg c0) (Ev.bind pl (Ev.congr (fun k => if_pos rfl) (Ev.bind pe ?_)))
    rw [show wrongS (x.f0.eraseIdx m) x.f1 x.f2 x.f3 x.f4 x.f5 x.f6 x.f7 (mn x.f8 ((x.f0.eraseIdx m).length : Int)) = 0 by
      have a1 : wi ((x.f0.eraseIdx m).length : Int) 1 4 = true := by unfold wi; rw [decide_eq_true_eq]; omega
      have a2 : allS (x.f0.eraseIdx m) = true := (allS_iff _).2 (fun p hp => hb p (hmem p hp))
      have a3 : wi (mn x.f8 ((x.f0.eraseIdx m).length : Int)) 0 ((x.f0.eraseIdx m).length : Int) = true := by
        unfold wi at *; simp only [decide_eq_true_eq] at *; rw [mn_min]; omega
      unfold wrongS limS tailS
      rw [if_pos a1, if_pos a2, if_pos (by simp [p2, p3, p4]), if_pos p5, if_pos p6, if_pos p7, if_pos p8, if_pos a3]]
    exact Ev.now _

end Go.Proofs.Ytjmibjmlihmglaa.Pure
