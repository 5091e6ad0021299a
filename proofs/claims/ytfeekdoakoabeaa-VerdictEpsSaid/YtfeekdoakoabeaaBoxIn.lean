/- Boxes within boxes, and how they lie to an area. -/
import Derived.Test.YtfeekdoakoabeaaGx0
import Derived.Test.YtfeekdoakoabeaaArith
import Derived.Test.YtfeekdoakoabeaaWideBase
import Derived.Test.YtfeekdoakoabeaaWide128
import Derived.Test.YtfeekdoakoabeaaWideMul
import Derived.Test.YtfeekdoakoabeaaGeoBase
import Derived.Test.YtfeekdoakoabeaaGeo
import Derived.Test.YtfeekdoakoabeaaPoint
import Derived.Test.YtfeekdoakoabeaaPoly
import Derived.Test.YtfeekdoakoabeaaSide
import Derived.Test.YtfeekdoakoabeaaBoxGeo
import Derived.Test.YtfeekdoakoabeaaBoxBase
import Derived.Test.YtfeekdoakoabeaaBox
set_option linter.unusedVariables false
namespace Go.Proofs.Ytfeekdoakoabeaa.Q
open Go.RowKit Go.Proofs.Ytfeekdoakoabeaa.G Go.Proofs.Ytfeekdoakoabeaa.Geo Go.Proofs.YtfeekdoakoabeaaW.PrintWords Go.Proofs.YtfeekdoakoabeaaW.PrintLast Go.Proofs.YtfeekdoakoabeaaW.PrintMore
theorem onS_on2 {p a b : Pt} (h : onS p a b = true) : On p a b := (of_decide_eq_true h).2.2.2
theorem sides_like (l : List S28) (hr : rightS l = true) (p q : Pt) (hp : Ok p) (hq : Ok q) (h : ∀ a, a < l.length → meetS p q (ptAt l a) (ptAt l (nx l.length a)) = false) :
    sideS l p = sideS l q ∧ sideS l p ≠ 0 := by
  have hok := simple_ok (right_simple hr)
  have hm : ∀ a, a < l.length → ¬ Meet p q (ptAt l a) (ptAt l (nx l.length a)) := fun a ha e => by
    have := h a ha
    unfold meetS at this
    exact (of_decide_eq_false this) ⟨hp, hq, right_okAt hok a ha, right_okAt hok _ (nx_lt (by omega)), e⟩
  have o1 : ∀ a, a < l.length → onAt l p a = false := fun a ha => Bool.eq_false_iff.mpr fun e => hm a ha (.inl (onS_on2 e))
  have o2 : ∀ a, a < l.length → onAt l q a = false := fun a ha => Bool.eq_false_iff.mpr fun e => hm a ha (.inr (.inl (onS_on2 e)))
  rw [side_off l p hr hp o1, side_off l q hr hq o2, odd_ways l.length (ptAt l) p q hm]
  exact ⟨rfl, by unfold sgB; split <;> decide⟩
theorem in_ok {a b c d : Int} (h : rightB a b c d = true) {u : Pt} (hu : InB a b c d u) : Ok u := by
  obtain ⟨⟨h1, h2⟩, h3, h4⟩ := rightB_iff.1 h
  unfold InB at hu; unfold Ok at *; simp only at *; omega
theorem in_side {a b c d : Int} {l : List S28} (hb : rightB a b c d = true) (hr : rightS l = true) (hm : missS a b c d l = true) {u : Pt} (hu : InB a b c d u) : sideS l u = sideS l ⟨a, b⟩ := by
  have h34 := (rightB_iff.1 hb).2
  have hk : InB a b c d ⟨a, b⟩ := by unfold InB; simp only; omega
  refine (sides_like l hr u ⟨a, b⟩ (in_ok hb hu) (in_ok hb hk) (fun i hi => ?_)).1
  have h1 := (allF_iff _ _ _).1 hm i (by omega) (by omega)
  have hn : 0 < l.length := by omega
  have hok := simple_ok (right_simple hr)
  have k1 := right_okAt hok i hi
  have k2 := right_okAt hok (nx l.length i) (nx_lt hn)
  unfold meetS
  apply decide_eq_false
  rintro ⟨_, _, _, _, hM⟩
  have hH : Hit a b c d (ptAt l i) (ptAt l (nx l.length i)) := hit_meet hu hk (meet_flip _ _ _ _ hM)
  unfold missF meetsS at h1
  rw [hb, decide_eq_true ⟨k1, k2, hH⟩] at h1
  cases h1
theorem miss_in {a b c d a' b' c' d' : Int} {l : List S28} (hb : rightB a b c d = true) (hb' : rightB a' b' c' d' = true) (hr : rightS l = true) (hm : missS a b c d l = true) (h1 : InB a b c d ⟨a', b'⟩) (h2 : InB a b c d ⟨c', d'⟩) : missS a' b' c' d' l = true := by
  have h34 := (rightB_iff.1 hb').2
  unfold missS
  rw [allF_iff]
  intro i _ hi
  have h0 := (allF_iff _ _ _).1 hm i (by omega) (by omega)
  have hn : 0 < l.length := by omega
  have hok := simple_ok (right_simple hr)
  have k1 := right_okAt hok i (by omega)
  have k2 := right_okAt hok (nx l.length i) (nx_lt hn)
  unfold missF meetsS at *
  rw [hb'] at *
  rw [hb] at h0
  simp only [Bool.true_and, Bool.not_eq_true', decide_eq_false_iff_not] at *
  exact fun h => h0 ⟨h.1, h.2.1, hit_in h34.1 h34.2 h1 h2 h.2.2⟩
theorem relate_in {a b c d a' b' c' d' : Int} {l : List S28} (hb : rightB a b c d = true) (hb' : rightB a' b' c' d' = true) (hr : rightS l = true) (h1 : InB a b c d ⟨a', b'⟩) (h2 : InB a b c d ⟨c', d'⟩) (h0 : relateS a b c d l ≠ 0) : relateS a' b' c' d' l = relateS a b c d l := by
  have hm : missS a b c d l = true := by
    unfold relateS at h0; rw [if_pos ⟨hb, hr⟩] at h0
    cases h : missS a b c d l with
    | true => rfl
    | false => rw [h] at h0; exact absurd rfl h0
  have e1 : relateS a b c d l = sideS l ⟨a, b⟩ := by unfold relateS; rw [if_pos ⟨hb, hr⟩, if_pos hm]
  have e2 : relateS a' b' c' d' l = sideS l ⟨a', b'⟩ := by unfold relateS; rw [if_pos ⟨hb', hr⟩, if_pos (miss_in hb hb' hr hm h1 h2)]
  rw [e1, e2]
  exact in_side hb hr hm h1
end Go.Proofs.Ytfeekdoakoabeaa.Q
