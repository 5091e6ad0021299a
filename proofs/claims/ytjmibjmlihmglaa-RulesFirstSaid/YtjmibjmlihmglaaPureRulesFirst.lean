/- RulesFirst, in plain numbers: one thing that is wrong in rules that may be else is told by its number; no condition. -/
import Derived.Test.YtjmibjmlihmglaaGx0
import Derived.Test.YtjmibjmlihmglaaGx11
import Derived.Test.YtjmibjmlihmglaaGx22
import Derived.Test.YtjmibjmlihmglaaGx3
import Derived.Test.YtjmibjmlihmglaaGx9
import Derived.Test.YtjmibjmlihmglaaArith
import Derived.Test.YtjmibjmlihmglaaWideBase
import Derived.Test.YtjmibjmlihmglaaWide128
import Derived.Test.YtjmibjmlihmglaaWideMul
import Derived.Test.YtjmibjmlihmglaaGeoBase
import Derived.Test.YtjmibjmlihmglaaPoint
import Derived.Test.YtjmibjmlihmglaaPoly
import Derived.Test.YtjmibjmlihmglaaRules
import Derived.Test.YtjmibjmlihmglaaStRulesFirst
namespace Go.Proofs.Ytjmibjmlihmglaa.Pure
open Go.RowKit Go.Proofs.Ytjmibjmlihmglaa.G Go.Proofs.Ytjmibjmlihmglaa.Q Go.Proofs.Ytjmibjmlihmglaa.Geo Go.Proofs.YtjmibjmlihmglaaW.PrintWords Go.Proofs.YtjmibjmlihmglaaW.PrintLast Go.Proofs.YtjmibjmlihmglaaW.PrintMore
set_option linter.unusedVariables false

theorem clone_small (l : List S41) (h : l.length ≤ 12) : slices_Clone_Point.f l = some l := by
  unfold slices_Clone_Point.f
  simp only [Option.bind_some, List.length_nil, List.nil_append]; rw [if_pos (by omega)]

theorem copy_loop (l : List S30) (h : l.length ≤ 8 ∧ ∀ p ∈ l, p.f0.length ≤ 12) (n d g e s a li sa : Int) (m : Nat) :
    ∀ i : Nat, i + m = l.length → Ev (fun k => rules_Copy.l0 k l.length i l n d g e s a li sa) (l, n, d, g, e, s, a, li, sa) := by
  obtain ⟨h8, h12⟩ := h
  induction m with
  | zero => intro i hi; exact Ev.step (f := fun _ => some (l, n, d, g, e, s, a, li, sa)) (fun k => by simp only [rules_Copy.l0]; rw [if_neg (by omega)]) (Ev.now _)
  | succ m ih =>
    intro i hi
    have hlt : i < l.length := by omega
    refine Ev.step (f := fun k => rules_Copy.l0 k l.length ((i + 1 : Nat) : Int) l n d g e s a li sa) (fun k => ?_) (ih (i + 1) (by omega))
    simp only [rules_Copy.l0]
    rw [if_pos (by omega), if_pos (by omega), if_pos (by omega), w64 (by omega) (by omega)]
    have hp : rd_T30 l (i : Int) = l[i] := phAt_get l i hlt
    rw [hp, clone_small _ (h12 _ (List.getElem_mem hlt))]
    simp only [Option.bind_some, Int.toNat_natCast]
    rw [show l.set i (⟨l[i].f0, l[i].f1, l[i].f2, l[i].f3, l[i].f4⟩ : S30) = l from List.set_getElem_self hlt]; rfl
theorem copy_ev (l : List S30) (h : l.length ≤ 8 ∧ ∀ p ∈ l, p.f0.length ≤ 12) (n d g e s a li sa : Int) : Ev (fun k => rules_Copy.f k l n d g e s a li sa) (l, n, d, g, e, s, a, li, sa) := by
  refine Ev.congr (f := fun k => rules_Copy.l0 k l.length ((0 : Nat) : Int) l n d g e s a li sa) (fun k => ?_) (copy_loop l h n d g e s a li sa l.length 0 (by omega))
  unfold rules_Copy.f slices_Clone_Phase.f
  simp only [Option.bind_some, List.length_nil, List.nil_append]
  rw [if_pos (by omega)]; rfl

/-- one that is wrong: its number is told, and the rules may not be -/
theorem told (l : List S30) (hs : Small l) (n d g e s a li sa w : Int) (hw : wrongS l n d g e s a li sa = w) (h0 : w ≠ 0) :
    Ev (fun k => (rules_Wrong.f k l n d g e s a li sa).bind fun t => (if t = w then ((rules_Right.f k l n d g e s a li sa).bind fun u => (some (!u))) else (none))) true := by
  have h1 := prog_wrong l hs n d g e s a li sa
  have h2 := prog_rr l hs n d g e s a li sa
  rw [hw] at h1 h2
  refine Ev.bind h1 (Ev.congr (fun k => if_pos rfl) (Ev.bind h2 ?_))
  rw [show (w == 0) = false from beq_eq_false_iff_ne.mpr h0]; exact Ev.now _

theorem tm_bounds (x n : Int) (hn : 0 < n) : 0 ≤ Int.tmod (IntKind.u64.wrap x) n ∧ Int.tmod (IntKind.u64.wrap x) n < n := by
  rw [u64w]
  exact ⟨Int.tmod_nonneg _ (by omega), Int.tmod_lt_of_pos _ hn⟩

theorem bad_of (w2 : Int) (h : 0 ≤ w2 ∧ w2 ≤ 2) : rd ([0, (-1), 1099511627776] : List Int) w2 = 0 ∨ rd ([0, (-1), 1099511627776] : List Int) w2 = -1 ∨ rd ([0, (-1), 1099511627776] : List Int) w2 = 1099511627776 := by
  obtain rfl | rfl | rfl : w2 = 0 ∨ w2 = 1 ∨ w2 = 2 := by omega
  · exact .inl rfl
  · exact .inr (.inl rfl)
  · exact .inr (.inr rfl)

theorem parts {l : List S30} {n d g e s a li sa : Int} (h : wrongS l n d g e s a li sa = 0) :
    wi (l.length : Int) 1 4 = true ∧ allS l = true ∧ wi n 1 50 = true ∧ wi d 1 50 = true ∧ wi g 1 50 = true ∧ wi e 0 1024 = true ∧ wi s 1 65536 = true ∧ wi a 1 50 = true ∧ wi li 1 1073741824 = true ∧ wi sa 0 (l.length : Int) = true := by
  have := wrong_zero h
  unfold wi
  simp only [decide_eq_true_eq]
  refine ⟨by omega, this.2.2.2.2.2.2.2.2.2, by omega, by omega, by omega, by omega, by omega, by omega, by omega, by omega⟩

theorem RulesFirst : G.RulesFirst.Pure := by
  intro x i n hx hi hn
  have hl : x.f0.length ≤ 9223372036854775807 := hx.1.1
  apply ev_some
  have no : Ev (fun k => apogeelaw13_RulesFirst.j0 k i n true x.f0 x.f1 x.f2 x.f3 x.f4 x.f5 x.f6 x.f7 x.f8) true :=
    Ev.step (f := fun k => (apogeelaw13_awake.f k).bind fun t => (some t)) (fun k => by simp only [apogeelaw13_RulesFirst.j0]; rw [if_pos trivial]) (Ev.bind awake13 (Ev.now _))
  refine Ev.congr (fun k => rfl) (Ev.bind awake13 (Ev.congr (fun k => if_pos rfl) (Ev.bind (few_ev x.f0 hl x.f1 x.f2 x.f3 x.f4 x.f5 x.f6 x.f7 x.f8) (ev_ite (fun hf => ?_) (fun _ => no)))))
  have hs := small_few hf
  have h8 := few_small hf
  refine Ev.bind (ref_wrong x.f0 hs x.f1 x.f2 x.f3 x.f4 x.f5 x.f6 x.f7 x.f8) ?_
  by_cases c : wrongS x.f0 x.f1 x.f2 x.f3 x.f4 x.f5 x.f6 x.f7 x.f8 = 0
  case neg => rw [show (wrongS x.f0 x.f1 x.f2 x.f3 x.f4 x.f5 x.f6 x.f7 x.f8 != 0) = true from bne_iff_ne.mpr c]; exact no
  rw [show (wrongS x.f0 x.f1 x.f2 x.f3 x.f4 x.f5 x.f6 x.f7 x.f8 != 0) = false by rw [c]; rfl]
  obtain ⟨p0, p1, p2, p3, p4, p5, p6, p7, p8, p9⟩ := parts c
  have z := wrong_zero c
  have t1 := tm_bounds i 7 (by omega)
  have t2 := tm_bounds n 3 (by omega)
  refine Ev.step (f := fun k => ((rules_Copy.f k x.f0 x.f1 x.f2 x.f3 x.f4 x.f5 x.f6 x.f7 x.f8).bind fun bt515 => (if (bt515.1.length : Int) = 0 then (none) else ((some (([0, (-1), 1099511627776] : List Int) : List Int)).bind fun y527 => (if 0 ≤ (wrap64 (Int.tmod (IntKind.u64.wrap (n)) 3)) then (if (wrap64 (Int.tmod (IntKind.u64.wrap (n)) 3)) < (y527.length : Int) then (if (wrap64 (2 + (wrap64 (Int.tmod (IntKind.u64.wrap (i)) 7)))) = 2 then (if (IntKind.u64.wrap ((bt515.1.length : Int))) = 0 then (none) else (if 0 ≤ (wrap64 (Int.tmod (IntKind.u64.wrap (n)) (IntKind.u64.wrap ((bt515.1.length : Int))))) then (if (wrap64 (Int.tmod (IntKind.u64.wrap (n)) (IntKind.u64.wrap ((bt515.1.length : Int))))) < (bt515.1.length : Int) then ((some (bt515.1.set ((wrap64 (Int.tmod (IntKind.u64.wrap (n)) (IntKind.u64.wrap ((bt515.1.length : Int))))) : Int).toNat (⟨(rd_T30 bt515.1 (wrap64 (Int.tmod (IntKind.u64.wrap (n)) (IntKind.u64.wrap ((bt515.1.length : Int)))))).f0, (rd_T30 bt515.1 (wrap64 (Int.tmod (IntKind.u64.wrap (n)) (IntKind.u64.wrap ((bt515.1.length : Int)))))).f1, rd y527 (wrap64 (Int.tmod (IntKind.u64.wrap (n)) 3)), (rd_T30 bt515.1 (wrap64 (Int.tmod (IntKind.u64.wrap (n)) (IntKind.u64.wrap ((bt515.1.length : Int)))))).f3, (rd_T30 bt515.1 (wrap64 (Int.tmod (IntKind.u64.wrap (n)) (IntKind.u64.wrap ((bt515.1.length : Int)))))).f4⟩ : S30) : List (S30))).bind fun y531 => ((rules_Wrong.f k y531 bt515.2.1 bt515.2.2.1 bt515.2.2.2.1 bt515.2.2.2.2.1 bt515.2.2.2.2.2.1 bt515.2.2.2.2.2.2.1 bt515.2.2.2.2.2.2.2.1 bt515.2.2.2.2.2.2.2.2).bind fun t532 => (if t532 = (wrap64 (2 + (wrap64 (Int.tmod (IntKind.u64.wrap (i)) 7)))) then ((rules_Right.f k y531 bt515.2.1 bt515.2.2.1 bt515.2.2.2.1 bt515.2.2.2.2.1 bt515.2.2.2.2.2.1 bt515.2.2.2.2.2.2.1 bt515.2.2.2.2.2.2.2.1 bt515.2.2.2.2.2.2.2.2).bind fun t533 => (some (!t533))) else (none)))) else (none)) else (none))) else (if (wrap64 (2 + (wrap64 (Int.tmod (IntKind.u64.wrap (i)) 7)))) = 3 then ((rules_Wrong.f k bt515.1 bt515.2.1 bt515.2.2.1 (rd y527 (wrap64 (Int.tmod (IntKind.u64.wrap (n)) 3))) bt515.2.2.2.2.1 bt515.2.2.2.2.2.1 bt515.2.2.2.2.2.2.1 bt515.2.2.2.2.2.2.2.1 bt515.2.2.2.2.2.2.2.2).bind fun t534 => (if t534 = (wrap64 (2 + (wrap64 (Int.tmod (IntKind.u64.wrap (i)) 7)))) then ((rules_Right.f k bt515.1 bt515.2.1 bt515.2.2.1 (rd y527 (wrap64 (Int.tmod (IntKind.u64.wrap (n)) 3))) bt515.2.2.2.2.1 bt515.2.2.2.2.2.1 bt515.2.2.2.2.2.2.1 bt515.2.2.2.2.2.2.2.1 bt515.2.2.2.2.2.2.2.2).bind fun t535 => (some (!t535))) else (none))) else (if (wrap64 (2 + (wrap64 (Int.tmod (IntKind.u64.wrap (i)) 7)))) = 4 then ((rules_Wrong.f k bt515.1 bt515.2.1 bt515.2.2.1 bt515.2.2.2.1 (mn (rd y527 (wrap64 (Int.tmod (IntKind.u64.wrap (n)) 3))) (-1)) bt515.2.2.2.2.2.1 bt515.2.2.2.2.2.2.1 bt515.2.2.2.2.2.2.2.1 bt515.2.2.2.2.2.2.2.2).bind fun t536 => (if t536 = (wrap64 (2 + (wrap64 (Int.tmod (IntKind.u64.wrap (i)) 7)))) then ((rules_Right.f k bt515.1 bt515.2.1 bt515.2.2.1 bt515.2.2.2.1 (mn (rd y527 (wrap64 (Int.tmod (IntKind.u64.wrap (n)) 3))) (-1)) bt515.2.2.2.2.2.1 bt515.2.2.2.2.2.2.1 bt515.2.2.2.2.2.2.2.1 bt515.2.2.2.2.2.2.2.2).bind fun t537 => (some (!t537))) else (none))) else (if (wrap64 (2 + (wrap64 (Int.tmod (IntKind.u64.wrap (i)) 7)))) = 5 then ((rules_Wrong.f k bt515.1 bt515.2.1 bt515.2.2.1 bt515.2.2.2.1 bt515.2.2.2.2.1 (rd y527 (wrap64 (Int.tmod (IntKind.u64.wrap (n)) 3))) bt515.2.2.2.2.2.2.1 bt515.2.2.2.2.2.2.2.1 bt515.2.2.2.2.2.2.2.2).bind fun t538 => (if t538 = (wrap64 (2 + (wrap64 (Int.tmod (IntKind.u64.wrap (i)) 7)))) then ((rules_Right.f k bt515.1 bt515.2.1 bt515.2.2.1 bt515.2.2.2.1 bt515.2.2.2.2.1 (rd y527 (wrap64 (Int.tmod (IntKind.u64.wrap (n)) 3))) bt515.2.2.2.2.2.2.1 bt515.2.2.2.2.2.2.2.1 bt515.2.2.2.2.2.2.2.2).bind fun t539 => (some (!t539))) else (none))) else (if (wrap64 (2 + (wrap64 (Int.tmod (IntKind.u64.wrap (i)) 7)))) = 6 then ((rules_Wrong.f k bt515.1 bt515.2.1 bt515.2.2.1 bt515.2.2.2.1 bt515.2.2.2.2.1 bt515.2.2.2.2.2.1 (rd y527 (wrap64 (Int.tmod (IntKind.u64.wrap (n)) 3))) bt515.2.2.2.2.2.2.2.1 bt515.2.2.2.2.2.2.2.2).bind fun t540 => (if t540 = (wrap64 (2 + (wrap64 (Int.tmod (IntKind.u64.wrap (i)) 7)))) then ((rules_Right.f k bt515.1 bt515.2.1 bt515.2.2.1 bt515.2.2.2.1 bt515.2.2.2.2.1 bt515.2.2.2.2.2.1 (rd y527 (wrap64 (Int.tmod (IntKind.u64.wrap (n)) 3))) bt515.2.2.2.2.2.2.2.1 bt515.2.2.2.2.2.2.2.2).bind fun t541 => (some (!t541))) else (none))) else (if (wrap64 (2 + (wrap64 (Int.tmod (IntKind.u64.wrap (i)) 7)))) = 7 then ((rules_Wrong.f k bt515.1 bt515.2.1 bt515.2.2.1 bt515.2.2.2.1 bt515.2.2.2.2.1 bt515.2.2.2.2.2.1 bt515.2.2.2.2.2.2.1 (rd y527 (wrap64 (Int.tmod (IntKind.u64.wrap (n)) 3))) bt515.2.2.2.2.2.2.2.2).bind fun t542 => (if t542 = (wrap64 (2 + (wrap64 (Int.tmod (IntKind.u64.wrap (i)) 7)))) then ((rules_Right.f k bt515.1 bt515.2.1 bt515.2.2.1 bt515.2.2.2.1 bt515.2.2.2.2.1 bt515.2.2.2.2.2.1 bt515.2.2.2.2.2.2.1 (rd y527 (wrap64 (Int.tmod (IntKind.u64.wrap (n)) 3))) bt515.2.2.2.2.2.2.2.2).bind fun t543 => (some (!t543))) else (none))) else ((rules_Wrong.f k bt515.1 bt515.2.1 bt515.2.2.1 bt515.2.2.2.1 bt515.2.2.2.2.1 bt515.2.2.2.2.2.1 bt515.2.2.2.2.2.2.1 bt515.2.2.2.2.2.2.2.1 (wrap64 ((-1) - (wrap64 (Int.tmod (IntKind.u64.wrap (n)) 3))))).bind fun t544 => (if t544 = (wrap64 (2 + (wrap64 (Int.tmod (IntKind.u64.wrap (i)) 7)))) then ((rules_Right.f k bt515.1 bt515.2.1 bt515.2.2.1 bt515.2.2.2.1 bt515.2.2.2.2.1 bt515.2.2.2.2.2.1 bt515.2.2.2.2.2.2.1 bt515.2.2.2.2.2.2.2.1 (wrap64 ((-1) - (wrap64 (Int.tmod (IntKind.u64.wrap (n)) 3))))).bind fun t545 => (some (!t545))) else (none))))))))) else (none)) else (none)))))) (fun k => by simp only [apogeelaw13_RulesFirst.j0]; rw [if_neg (by decide)]) ?_
  refine Ev.bind (copy_ev x.f0 h8 x.f1 x.f2 x.f3 x.f4 x.f5 x.f6 x.f7 x.f8) (Ev.congr (fun k => if_neg (by simp only; omega)) (Ev.bind (Ev.now _) ?_))
  simp only [w64 (x := Int.tmod (IntKind.u64.wrap i) 7) (by omega) (by omega), w64 (x := Int.tmod (IntKind.u64.wrap n) 3) (by omega) (by omega), w64 (x := 2 + Int.tmod (IntKind.u64.wrap i) 7) (by omega) (by omega), w64 (x := (-1) - Int.tmod (IntKind.u64.wrap n) 3) (by omega) (by omega)]
  have hb := bad_of (Int.tmod (IntKind.u64.wrap n) 3) (by omega)
  generalize hr : rd ([0, (-1), 1099511627776] : List Int) (Int.tmod (IntKind.u64.wrap n) 3) = bad at hb ⊢
  generalize hw1 : Int.tmod (IntKind.u64.wrap i) 7 = w1 at t1 ⊢
  generalize hw2 : Int.tmod (IntKind.u64.wrap n) 3 = w2 at t2 ⊢
  have nb : ∀ hi : Int, hi < 1099511627776 → wi bad 1 hi = false := fun hi hh => by unfold wi; apply decide_eq_false; omega
  have ne : wi (mn bad (-1)) 0 1024 = false := by unfold wi; apply decide_eq_false; rw [mn_min]; omega
  have ns : wi (-1 - w2) 0 (x.f0.length : Int) = false := by unfold wi; apply decide_eq_false; omega
  refine Ev.congr (fun k => if_pos t2.1) (Ev.congr (fun k => if_pos (by simp only [List.length_cons, List.length_nil]; omega)) ?_)
  refine ev_ite (fun q2 => ?_) (fun q2 => ev_ite (fun q3 => ?_) (fun q3 => ev_ite (fun q4 => ?_) (fun q4 => ev_ite (fun q5 => ?_) (fun q5 => ev_ite (fun q6 => ?_) (fun q6 => ev_ite (fun q7 => ?_) (fun q7 => ?_))))))
  · -- a phase
    have eu : IntKind.u64.wrap (x.f0.length : Int) = (x.f0.length : Int) := by rw [u64w]; omega
    have t3 := tm_bounds n (x.f0.length : Int) (by omega)
    simp only [eu]
    rw [w64 (x := Int.tmod (IntKind.u64.wrap n) (x.f0.length : Int)) (by omega) (by omega)]
    generalize Int.tmod (IntKind.u64.wrap n) (x.f0.length : Int) = at3 at t3 ⊢
    obtain ⟨m, rfl⟩ : ∃ m : Nat, at3 = (m : Int) := ⟨at3.toNat, by omega⟩
    refine Ev.congr (fun k => if_neg (by omega)) (Ev.congr (fun k => if_pos (by omega)) (Ev.congr (fun k => if_pos (by omega)) (Ev.bind (Ev.now _) ?_)))
    have hm : m < x.f0.length := by omega
    have hs2 : Small (x.f0.set (m : Int).toNat (⟨(rd_T30 x.f0 m).f0, (rd_T30 x.f0 m).f1, bad, (rd_T30 x.f0 m).f3, (rd_T30 x.f0 m).f4⟩ : S30)) := by
      refine ⟨by rw [List.length_set]; omega, fun p hp => ?_⟩
      rcases List.mem_or_eq_of_mem_set hp with hp | hp
      · exact hs.2 p hp
      · rw [hp]; exact small_at hs m hm
    refine told _ hs2 _ _ _ _ _ _ _ _ _ ?_ (by omega)
    unfold wrongS
    rw [List.length_set, if_pos p0, if_neg ?_, q2]
    intro h
    have h2 := (allF_iff _ _ _).1 h m (by omega) (by rw [List.length_set]; omega)
    rw [phAt_get _ m (by rw [List.length_set]; exact hm)] at h2
    simp only [Int.toNat_natCast, List.getElem_set_self] at h2
    unfold pB phaseS at h2
    simp only [nb 65536 (by omega), Bool.false_and, Bool.and_false] at h2
    cases h2
  · refine told _ hs _ _ _ _ _ _ _ _ _ ?_ (by omega)
    unfold wrongS limS; rw [if_pos p0, if_pos p1, if_neg (by simp [nb 50 (by omega)]), q3]
  · refine told _ hs _ _ _ _ _ _ _ _ _ ?_ (by omega)
    unfold wrongS limS tailS; rw [if_pos p0, if_pos p1, if_pos (by simp [p2, p3, p4]), if_neg (by simp [ne]), q4]
  · refine told _ hs _ _ _ _ _ _ _ _ _ ?_ (by omega)
    unfold wrongS limS tailS; rw [if_pos p0, if_pos p1, if_pos (by simp [p2, p3, p4]), if_pos p5, if_neg (by simp [nb 65536 (by omega)]), q5]
  · refine told _ hs _ _ _ _ _ _ _ _ _ ?_ (by omega)
    unfold wrongS limS tailS; rw [if_pos p0, if_pos p1, if_pos (by simp [p2, p3, p4]), if_pos p5, if_pos p6, if_neg (by simp [nb 50 (by omega)]), q6]
  · refine told _ hs _ _ _ _ _ _ _ _ _ ?_ (by omega)
    unfold wrongS limS tailS; rw [if_pos p0, if_pos p1, if_pos (by simp [p2, p3, p4]), if_pos p5, if_pos p6, if_pos p7, if_neg (by simp [nb 1073741824 (by omega)]), q7]
  · refine told _ hs _ _ _ _ _ _ _ _ _ ?_ (by omega)
    unfold wrongS limS tailS; rw [if_pos p0, if_pos p1, if_pos (by simp [p2, p3, p4]), if_pos p5, if_pos p6, if_pos p7, if_pos p8, if_neg (by simp [ns])]; omega

end Go.Proofs.Ytjmibjmlihmglaa.Pure
