/- Verdicts: what the program answers, and how answers with more around a nav go with those with less. -/
import Derived.Test.YtfeekdoakoabeaaGx0
import Derived.Test.YtfeekdoakoabeaaGx15
import Derived.Test.YtfeekdoakoabeaaGx16
import Derived.Test.YtfeekdoakoabeaaGx22
import Derived.Test.YtfeekdoakoabeaaGx24
import Derived.Test.YtfeekdoakoabeaaGx8
import Derived.Test.YtfeekdoakoabeaaArith
import Derived.Test.YtfeekdoakoabeaaWideBase
import Derived.Test.YtfeekdoakoabeaaWideAdd
import Derived.Test.YtfeekdoakoabeaaWide128
import Derived.Test.YtfeekdoakoabeaaWideMul
import Derived.Test.YtfeekdoakoabeaaWideSub
import Derived.Test.YtfeekdoakoabeaaGeoBase
import Derived.Test.YtfeekdoakoabeaaGeo
import Derived.Test.YtfeekdoakoabeaaPoint
import Derived.Test.YtfeekdoakoabeaaPoly
import Derived.Test.YtfeekdoakoabeaaSide
import Derived.Test.YtfeekdoakoabeaaBoxGeo
import Derived.Test.YtfeekdoakoabeaaBox
import Derived.Test.YtfeekdoakoabeaaBoxIn
import Derived.Test.YtfeekdoakoabeaaRoot
import Derived.Test.YtfeekdoakoabeaaFall
import Derived.Test.YtfeekdoakoabeaaImpact
import Derived.Test.YtfeekdoakoabeaaTimes
import Derived.Test.YtfeekdoakoabeaaBoxBase
import Derived.Test.YtfeekdoakoabeaaImpactBox
namespace Go.Proofs.Ytfeekdoakoabeaa.Q
open Go.RowKit Go.Proofs.Ytfeekdoakoabeaa.G Go.Proofs.Ytfeekdoakoabeaa.Geo Go.Proofs.YtfeekdoakoabeaaW.PrintWords Go.Proofs.YtfeekdoakoabeaaW.PrintLast Go.Proofs.YtfeekdoakoabeaaW.PrintMore
set_option linter.unusedVariables false
set_option linter.unusedSimpArgs false
theorem ref_may_in (a b x y z u v w g e : Int) (he : 0 ≤ e ∧ e ≤ 2048) : apogeeref18_May.f a b x y z u v w g e = some (decide (NavIn x y z u v w g)) := by
  unfold apogeeref18_May.f
  rw [ref_may_plain]
  have no : ¬ NavIn x y z u v w g → some false = some (decide (NavIn x y z u v w g)) := fun h => by rw [decide_eq_false h]
  repeat' first
    | (split; · exact no (by unfold NavIn; omega))
    | (exfalso; omega)
    | (simp only [Option.bind_some]; congr 1; apply decide_eq_decide.mpr; exact ⟨fun h => ⟨h, by omega, by omega, by omega, by omega⟩, fun h => h.1⟩)
def amax (u v w : Int) : Int := max (max u (-u)) (max (max v (-v)) (max w (-w)))
def speedS (u v w most e : Int) : Int := if amax u v w - e > most then -1 else if amax u v w + e > most then 0 else 1
theorem speed_round (most e s : Int) (l : List Int) (i : Nat) (hi : i < l.length) (hl : l.length ≤ 1000) (he : 0 ≤ e ∧ e ≤ 2048) (hv : -131072 ≤ rd l i ∧ rd l i ≤ 131072) (hm : 0 ≤ most ∧ most ≤ 65536) {R : Int}
    (h : ¬ max (rd l i) (-rd l i) - e > most → Ev (fun k => verdict_Speed.l0 k most e (if max (rd l i) (-rd l i) + e > most then 0 else s) l l.length ((i + 1 : Nat) : Int)) R) :
    Ev (fun k => verdict_Speed.l0 k most e s l l.length i) (if max (rd l i) (-rd l i) - e > most then -1 else R) := by
  generalize hx : rd l i = x at *
  refine Ev.step (f := fun k => verdict_Speed.j1 k most e s (max x (-x)) l l.length i (decide (max x (-x) - e > most))) (fun k => ?_) ?_
  · simp only [verdict_Speed.l0]
    rw [if_pos (by omega), if_pos (by omega), if_pos (by omega), hx, fix_abs x (by omega) (by omega)]
    simp only [Option.bind_some, if_true]
    rw [fix_sub _ _ (by unfold Hi; omega) (by unfold Hi; omega) (by unfold Hi; omega)]
    simp only [Option.bind_some, if_true]
  by_cases c : max x (-x) - e > most
  · rw [if_pos c, decide_eq_true c]
    exact Ev.step (f := fun _ => some (-1)) (fun k => by simp only [verdict_Speed.j1]; rw [if_pos trivial]) (Ev.now _)
  · rw [if_neg c, decide_eq_false c]
    refine Ev.step (f := fun k => verdict_Speed.l0 k most e (if max x (-x) + e > most then 0 else s) l l.length ((i + 1 : Nat) : Int)) (fun k => ?_) (h c)
    simp only [verdict_Speed.j1]
    rw [if_neg (by decide), fix_add _ _ (by unfold Hi; omega) (by unfold Hi; omega), if_pos (by unfold Hi; omega)]
    simp only [Option.bind_some, if_true]
    rw [w64 (by omega) (by omega)]
    by_cases c2 : max x (-x) + e > most
    · rw [if_pos c2, if_pos c2]; rfl
    · rw [if_neg c2, if_neg c2]; rfl
theorem speed_ev (a b x y z u v w most e : Int) (he : 0 ≤ e ∧ e ≤ 2048) (hm : 0 ≤ most ∧ most ≤ 65536) (hu : -131072 ≤ u ∧ u ≤ 131072) (hv : -131072 ≤ v ∧ v ≤ 131072) (hw : -131072 ≤ w ∧ w ≤ 131072) :
    Ev (fun k => verdict_Speed.f k a b x y z u v w most e) (speedS u v w most e) := by
  have fin : ∀ s : Int, Ev (fun k => verdict_Speed.l0 k most e s [u, v, w] ([u, v, w] : List Int).length ((3 : Nat) : Int)) s := fun s =>
    Ev.step (f := fun _ => some s) (fun k => by simp only [verdict_Speed.l0]; rw [if_neg (by simp)]) (Ev.now _)
  have r0 : rd ([u, v, w] : List Int) ((0 : Nat) : Int) = u := rfl
  have r1 : rd ([u, v, w] : List Int) ((1 : Nat) : Int) = v := rfl
  have r2 : rd ([u, v, w] : List Int) ((2 : Nat) : Int) = w := rfl
  have h2 := fun s => speed_round most e s [u, v, w] 2 (by simp) (by simp) he (by rw [r2]; exact hw) hm (fun _ => fin _)
  have h1 := fun s => speed_round most e s [u, v, w] 1 (by simp) (by simp) he (by rw [r1]; exact hv) hm (fun _ => h2 _)
  have h0 := speed_round most e 1 [u, v, w] 0 (by simp) (by simp) he (by rw [r0]; exact hu) hm (fun _ => h1 _)
  rw [r0, r1, r2] at h0
  have e0 : (if max u (-u) - e > most then (-1 : Int) else if max v (-v) - e > most then -1 else if max w (-w) - e > most then -1 else if max w (-w) + e > most then 0 else if max v (-v) + e > most then 0 else if max u (-u) + e > most then 0 else 1) = speedS u v w most e := by
    unfold speedS amax; repeat' split
    all_goals omega
  rw [e0] at h0
  exact h0
def ofS (s r : Int) : Int := if s < 0 ∨ r < 0 then 3 else if s > 0 ∧ r > 0 then 1 else 2
theorem of_in_ev (a b x y z u v w g most mn up e : Int) (l : List S28) (hl : l.length ≤ 4611686018427387904) (h : NavIn x y z u v w g) (he : 0 ≤ e ∧ e ≤ 2048) (hm : 0 ≤ most ∧ most ≤ 65536) :
    ∃ lo hi, SpanOf z w g e lo hi ∧ rightB (bl x u e lo hi) (bl y v e lo hi) (bh x u e lo hi) (bh y v e lo hi) = true ∧
      Ev (fun k => verdict_Of.f k a b x y z u v w l g most mn up e) (ofS (speedS u v w most e) (relateS (bl x u e lo hi) (bl y v e lo hi) (bh x u e lo hi) (bh y v e lo hi) l)) := by
  obtain ⟨lo, hi, hS, hB, hev⟩ := box_in_ev a b x y z u v w g e h he
  refine ⟨lo, hi, hS, hB, ?_⟩
  obtain ⟨hz, _, _, hu, hv⟩ := h
  unfold May at hz
  have sp := speed_ev a b x y z u v w most e he hm hu hv hz.2.1
  have pl : Ev (fun k => verdict_Place.f k a b x y z u v w l g most mn up e) (relateS (bl x u e lo hi) (bl y v e lo hi) (bh x u e lo hi) (bh y v e lo hi) l) :=
    Ev.bind hev (Ev.congr (fun k => if_pos rfl) (Ev.bind (prog_relate l hl _ _ _ _) (Ev.now _)))
  generalize relateS (bl x u e lo hi) (bl y v e lo hi) (bh x u e lo hi) (bh y v e lo hi) l = R at *
  generalize speedS u v w most e = S at *
  refine Ev.bind hev (Ev.congr (fun k => if_pos rfl) (Ev.bind sp (Ev.bind pl ?_)))
  have j : ∀ t : Bool, Ev (fun k => verdict_Of.j0 k S R t) (if t = true then 3 else if S > 0 ∧ R > 0 then 1 else 2) := fun t => by
    refine Ev.step (f := fun _ => some (if t = true then 3 else if S > 0 ∧ R > 0 then 1 else 2)) (fun k => ?_) (Ev.now _)
    simp only [verdict_Of.j0]
    by_cases c : t = true
    · rw [if_pos c, if_pos c]
    · rw [if_neg c, if_neg c]
      by_cases c1 : S > 0 <;> by_cases c2 : R > 0 <;> simp [c1, c2]
  unfold ofS
  refine ev_ite (fun c => ?_) (fun c => ?_)
  · rw [if_pos (.inl c)]; exact j true
  · have hj := j (decide (R < 0))
    by_cases c2 : R < 0
    · rw [if_pos (.inr c2)]; rw [decide_eq_true c2] at *; exact hj
    · rw [if_neg (by omega)]; rw [decide_eq_false c2] at *; exact hj
theorem of_out_ev (a b x y z u v w g most mn up e : Int) (l : List S28) (h : ¬ NavIn x y z u v w g) (he : 0 ≤ e ∧ e ≤ 2048) :
    Ev (fun k => verdict_Of.f k a b x y z u v w l g most mn up e) 4 := by
  obtain ⟨q, hq, hev⟩ := box_out_ev a b x y z u v w g e h he
  exact Ev.bind hev (Ev.congr (fun k => if_neg (by rw [hq]; decide)) (Ev.now _))
theorem span_in {z w g e lo hi z' w' e' lo' hi' : Int} (hg : 1 ≤ g) (h : SpanOf z w g e lo hi) (h' : SpanOf z' w' g e' lo' hi') (h1 : z' - e' ≤ z - e ∧ z + e ≤ z' + e') (h2 : w' - e' ≤ w - e ∧ w + e ≤ w' + e') (he : 0 ≤ e) :
    0 ≤ lo' ∧ lo' ≤ lo ∧ lo ≤ hi ∧ hi ≤ hi' := by
  obtain ⟨r, s, hr, hs, rfl, rfl⟩ := h
  obtain ⟨r', s', hr', hs', rfl, rfl⟩ := h'
  have a1 := time_nonneg (z' - e') (w' - e') g r' hg hr'
  have a2 := time_mono (z' - e') (w' - e') (z - e) (w - e) g r' r hg h1.1 h2.1 hr' hr
  have a3 := time_mono (z - e) (w - e) (z + e) (w + e) g r s hg (by omega) (by omega) hr hs
  have a4 := time_mono (z + e) (w + e) (z' + e') (w' + e') g s s' hg h1.2 h2.2 hs hs'
  omega
theorem speed_in {u v w e u' v' w' e' most : Int} (he : 0 ≤ e) (hu : u' - e' ≤ u - e ∧ u + e ≤ u' + e') (hv : v' - e' ≤ v - e ∧ v + e ≤ v' + e') (hw : w' - e' ≤ w - e ∧ w + e ≤ w' + e') :
    (speedS u' v' w' most e' < 0 → speedS u v w most e < 0) ∧ (speedS u' v' w' most e' > 0 → speedS u v w most e > 0) := by
  have h1 : amax u' v' w' - e' ≤ amax u v w - e ∧ amax u v w + e ≤ amax u' v' w' + e' := by unfold amax; omega
  unfold speedS
  constructor <;> intro h <;> repeat' split at h
  all_goals first
    | omega
    | (rw [if_pos (by omega)]; decide)
    | (rw [if_neg (by omega), if_neg (by omega)]; decide)
theorem sure_in {x y z u v w e x' y' z' u' v' w' e' g lo hi lo' hi' most : Int} {l : List S28} (hg : 1 ≤ g) (he : 0 ≤ e) (hr : rightS l = true)
    (hx : x' - e' ≤ x - e ∧ x + e ≤ x' + e') (hy : y' - e' ≤ y - e ∧ y + e ≤ y' + e') (hz : z' - e' ≤ z - e ∧ z + e ≤ z' + e') (hu : u' - e' ≤ u - e ∧ u + e ≤ u' + e') (hv : v' - e' ≤ v - e ∧ v + e ≤ v' + e') (hw : w' - e' ≤ w - e ∧ w + e ≤ w' + e')
    (s : SpanOf z w g e lo hi) (s' : SpanOf z' w' g e' lo' hi')
    (b : rightB (bl x u e lo hi) (bl y v e lo hi) (bh x u e lo hi) (bh y v e lo hi) = true) (b' : rightB (bl x' u' e' lo' hi') (bl y' v' e' lo' hi') (bh x' u' e' lo' hi') (bh y' v' e' lo' hi') = true) :
    (ofS (speedS u' v' w' most e') (relateS (bl x' u' e' lo' hi') (bl y' v' e' lo' hi') (bh x' u' e' lo' hi') (bh y' v' e' lo' hi') l) = 1 → ofS (speedS u v w most e) (relateS (bl x u e lo hi) (bl y v e lo hi) (bh x u e lo hi) (bh y v e lo hi) l) = 1) ∧
    (ofS (speedS u' v' w' most e') (relateS (bl x' u' e' lo' hi') (bl y' v' e' lo' hi') (bh x' u' e' lo' hi') (bh y' v' e' lo' hi') l) = 3 → ofS (speedS u v w most e) (relateS (bl x u e lo hi) (bl y v e lo hi) (bh x u e lo hi) (bh y v e lo hi) l) = 3) := by
  obtain ⟨a1, a2, a3, a4⟩ := span_in hg s s' hz hw he
  have p1 := side_in x u e lo hi x' u' e' lo' hi' hx hu a1 a2 a3 a4
  have p2 := side_in y v e lo hi y' v' e' lo' hi' hy hv a1 a2 a3 a4
  have sp := speed_in (most := most) he hu hv hw
  have q := (rightB_iff.1 b).2
  have i1 : InB (bl x' u' e' lo' hi') (bl y' v' e' lo' hi') (bh x' u' e' lo' hi') (bh y' v' e' lo' hi') ⟨bl x u e lo hi, bl y v e lo hi⟩ := by unfold InB; simp only; omega
  have i2 : InB (bl x' u' e' lo' hi') (bl y' v' e' lo' hi') (bh x' u' e' lo' hi') (bh y' v' e' lo' hi') ⟨bh x u e lo hi, bh y v e lo hi⟩ := by unfold InB; simp only; omega
  have rl := relate_in b' b hr i1 i2
  generalize relateS (bl x' u' e' lo' hi') (bl y' v' e' lo' hi') (bh x' u' e' lo' hi') (bh y' v' e' lo' hi') l = R' at *
  generalize relateS (bl x u e lo hi) (bl y v e lo hi) (bh x u e lo hi) (bh y v e lo hi) l = R at *
  generalize speedS u' v' w' most e' = S' at *
  generalize speedS u v w most e = S at *
  clear p1 p2 i1 i2 b b' s s' hx hy hz hu hv hw
  unfold ofS
  constructor <;> intro h <;> repeat' split at h
  all_goals first
    | omega
    | (have := rl (by omega); rw [if_neg (by omega), if_pos (by omega)])
    | (rename_i c; rcases c with c | c
       · rw [if_pos (.inl (sp.1 c))]
       · have := rl (by omega); rw [if_pos (.inr (by omega))])
theorem ref13_phase (l : List S28) (hl : l.length ≤ 4611686018427387904) (g v m u : Int) :
    Ev (fun k => apogeeref13_RightPhase.f k l g v m u) (rightS l && (decide (1 ≤ g ∧ g ≤ 100) && (decide (1 ≤ v ∧ v ≤ 65536) && (decide (1 ≤ m ∧ m ≤ 1000000) && decide (0 ≤ u ∧ u ≤ 1073741824))))) := by
  have wi : ∀ n lo hi : Int, apogeeref13_within.f n lo hi = some (decide (lo ≤ n ∧ n ≤ hi)) := fun n lo hi => by
    unfold apogeeref13_within.f
    by_cases c : n ≥ lo
    · rw [if_pos c]; congr 1; apply decide_eq_decide.mpr; omega
    · rw [if_neg c]; congr 1; symm; apply decide_eq_false; omega
  refine Ev.congr (fun k => rfl) (Ev.bind (ref_right l hl) ?_)
  simp only [wi, Option.bind_some]
  cases rightS l
  · exact Ev.now _
  · by_cases c1 : 1 ≤ g ∧ g ≤ 100
    · by_cases c2 : 1 ≤ v ∧ v ≤ 65536
      · by_cases c3 : 1 ≤ m ∧ m ≤ 1000000
        · simp only [decide_eq_true c1, decide_eq_true c2, decide_eq_true c3, if_true, Bool.true_and]; exact Ev.now _
        · simp only [decide_eq_true c1, decide_eq_true c2, decide_eq_false c3, if_true, Bool.true_and, Bool.false_and]; exact Ev.now _
      · simp only [decide_eq_true c1, decide_eq_false c2, if_true, Bool.true_and, Bool.false_and]; exact Ev.now _
    · simp only [decide_eq_false c1, if_true, Bool.true_and, Bool.false_and]; exact Ev.now _
theorem awake19 : Ev (fun k => apogeelaw19_awake.f k) true := ⟨200, fun k hk => at_rounds (fun k => apogeelaw19_awake.mono k) hk (by decide +kernel)⟩
end Go.Proofs.Ytfeekdoakoabeaa.Q
