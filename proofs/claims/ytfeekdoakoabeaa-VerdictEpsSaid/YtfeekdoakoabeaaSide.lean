/- On which side of an area a place is, by the program and by the reference. -/
import Derived.Test.YtfeekdoakoabeaaGx0
import Derived.Test.YtfeekdoakoabeaaGx10
import Derived.Test.YtfeekdoakoabeaaGx14
import Derived.Test.YtfeekdoakoabeaaArith
import Derived.Test.YtfeekdoakoabeaaWideBase
import Derived.Test.YtfeekdoakoabeaaWide128
import Derived.Test.YtfeekdoakoabeaaWideMul
import Derived.Test.YtfeekdoakoabeaaGeoBase
import Derived.Test.YtfeekdoakoabeaaGeo
import Derived.Test.YtfeekdoakoabeaaPoint
import Derived.Test.YtfeekdoakoabeaaPoly
namespace Go.Proofs.Ytfeekdoakoabeaa.Q
open Go.RowKit Go.Proofs.Ytfeekdoakoabeaa.G Go.Proofs.Ytfeekdoakoabeaa.Geo Go.Proofs.YtfeekdoakoabeaaW.PrintWords Go.Proofs.YtfeekdoakoabeaaW.PrintLast Go.Proofs.YtfeekdoakoabeaaW.PrintMore
set_option linter.unusedVariables false
set_option linter.unusedSimpArgs false
def crossAt (l : List S28) (p : Pt) (q : Nat) : Bool := cross (ptAt l q) (ptAt l (nx l.length q)) p
def onAt (l : List S28) (p : Pt) (q : Nat) : Bool := onS p (ptAt l q) (ptAt l (nx l.length q))
def sideF (l : List S28) (p : Pt) : Nat → Nat → Bool → Int
  | 0, _, o => if o = true then 1 else -1
  | d + 1, q, o => if onAt l p q = true then 0 else sideF l p d (q + 1) (o ^^ crossAt l p q)
def sideS (l : List S28) (p : Pt) : Int := if rightS l = true ∧ Ok p then sideF l p l.length 0 false else -1
theorem right_okAt {l : List S28} (h : okB l = true) (q : Nat) (hq : q < l.length) : Ok (ptAt l q) :=
  of_decide_eq_true ((allF_iff _ _ _).1 h q (by omega) (by omega))
theorem turn_pos {a b p : Pt} (ha : Ok a) (hb : Ok b) (hp : Ok p) : turnS a b p > 0 ↔ 0 < cr a b p := by
  rw [turnS_ok ha hb hp]; unfold sgn; split
  · omega
  · split <;> omega
theorem edge_ask {α : Type} (a b p : Pt) (ha : Ok a) (hb : Ok b) (hp : Ok p) (T : Nat → Int → Int → Int → Int → Int → Int → Option Int)
    (hT : ∀ p q r : Pt, Ev (fun k => T k p.x p.y q.x q.y r.x r.y) (turnS p q r)) {F G : Nat → Option α} {r : α}
    (hF : cross a b p = true → Ev F r) (hG : cross a b p = false → Ev G r) :
    Ev (fun k => (if a.y > b.y then (if b.y ≤ p.y then (if p.y < a.y then ((T k b.x b.y a.x a.y p.x p.y).bind fun t => (if t > 0 then F k else G k)) else G k) else G k)
      else (if a.y ≤ p.y then (if p.y < b.y then ((T k a.x a.y b.x b.y p.x p.y).bind fun t => (if t > 0 then F k else G k)) else G k) else G k))) r := by
  unfold cross at hF hG
  refine ev_ite (fun c => ?_) (fun c => ?_)
  · rw [if_pos (by omega)] at hF hG
    refine ev_ite (fun c1 => ev_ite (fun c2 => Ev.bind (hT b a p) (ev_ite (fun c3 => hF ?_) (fun c3 => hG ?_))) (fun c2 => hG ?_)) (fun c1 => hG ?_)
    · rw [turn_pos hb ha hp] at c3; simp [c1, c2, c3]
    · rw [turn_pos hb ha hp] at c3; simp [c3]
    · simp [c2]
    · simp [c1]
  · rw [if_neg (by omega)] at hF hG
    refine ev_ite (fun c1 => ev_ite (fun c2 => Ev.bind (hT a b p) (ev_ite (fun c3 => hF ?_) (fun c3 => hG ?_))) (fun c2 => hG ?_)) (fun c1 => hG ?_)
    · rw [turn_pos ha hb hp] at c3; simp [c1, c2, c3]
    · rw [turn_pos ha hb hp] at c3; simp [c3]
    · simp [c2]
    · simp [c1]
def sgB (o : Bool) : Int := if o = true then 1 else -1
theorem side_loop (l : List S28) (hl : l.length ≤ 4611686018427387904) (hok : okB l = true) (p : Pt) (hp : Ok p) (d : Nat) :
    ∀ (q : Nat) (o : Bool), q + d = l.length → Ev (fun k => poly_Side.l0 k l (sgB o) l.length q p.x p.y) (sideF l p d q o) := by
  induction d with
  | zero =>
    intro q o hq
    refine Ev.step (f := fun _ => some (sgB o)) (fun k => ?_) (Ev.now _)
    simp only [poly_Side.l0]; rw [if_neg (by omega)]
  | succ d ih =>
    intro q o hq
    have hn := nx_lt (n := l.length) (i := q) (by omega)
    have F := ih (q + 1) (!o) (by omega)
    have G := ih (q + 1) o (by omega)
    have ew : wrap64 (-sgB o) = sgB (!o) := by cases o <;> exact w64 (by decide) (by decide)
    refine Ev.step (f := fun k => (point_On.f k p.x p.y (ptAt l q).x (ptAt l q).y (ptAt l (nx l.length q)).x (ptAt l (nx l.length q)).y).bind fun t655 => (if t655 = true then (some 0) else
      (if (ptAt l q).y > (ptAt l (nx l.length q)).y then (if (ptAt l (nx l.length q)).y ≤ p.y then (if p.y < (ptAt l q).y then ((point_Turn.f k (ptAt l (nx l.length q)).x (ptAt l (nx l.length q)).y (ptAt l q).x (ptAt l q).y p.x p.y).bind fun t => (if t > 0 then poly_Side.l0 k l (sgB (!o)) l.length ((q + 1 : Nat) : Int) p.x p.y else poly_Side.l0 k l (sgB o) l.length ((q + 1 : Nat) : Int) p.x p.y)) else poly_Side.l0 k l (sgB o) l.length ((q + 1 : Nat) : Int) p.x p.y) else poly_Side.l0 k l (sgB o) l.length ((q + 1 : Nat) : Int) p.x p.y)
      else (if (ptAt l q).y ≤ p.y then (if p.y < (ptAt l (nx l.length q)).y then ((point_Turn.f k (ptAt l q).x (ptAt l q).y (ptAt l (nx l.length q)).x (ptAt l (nx l.length q)).y p.x p.y).bind fun t => (if t > 0 then poly_Side.l0 k l (sgB (!o)) l.length ((q + 1 : Nat) : Int) p.x p.y else poly_Side.l0 k l (sgB o) l.length ((q + 1 : Nat) : Int) p.x p.y)) else poly_Side.l0 k l (sgB o) l.length ((q + 1 : Nat) : Int) p.x p.y) else poly_Side.l0 k l (sgB o) l.length ((q + 1 : Nat) : Int) p.x p.y)))) (fun k => ?_) ?_
    · simp only [poly_Side.l0]
      rw [if_pos (by omega), edge_plain l hl q (by omega)]
      simp only [Option.bind_some]
      rw [ew, w64 (x := (q : Int) + 1) (by omega) (by omega)]; rfl
    · refine Ev.bind (on_ev p (ptAt l q) (ptAt l (nx l.length q))) (ev_ite (fun c => ?_) (fun c => ?_))
      · rw [show sideF l p (d + 1) q o = 0 from if_pos c]; exact Ev.now _
      · rw [show sideF l p (d + 1) q o = sideF l p d (q + 1) (o ^^ crossAt l p q) from if_neg c]
        refine edge_ask (ptAt l q) (ptAt l (nx l.length q)) p (right_okAt hok q (by omega)) (right_okAt hok _ hn) hp point_Turn.f turn_ev (fun h => ?_) (fun h => ?_)
        · unfold crossAt; rw [h, Bool.xor_true]; exact F
        · unfold crossAt; rw [h, Bool.xor_false]; exact G
theorem right_simple {l : List S28} (h : rightS l = true) : simpleS l = true := by unfold rightS at h; exact (Bool.and_eq_true _ _ ▸ h).1
theorem prog_side (l : List S28) (hl : l.length ≤ 4611686018427387904) (p : Pt) : Ev (fun k => poly_Side.f k l p.x p.y) (sideS l p) := by
  have hz : Ev (fun k => poly_Side.j0 k l true p.x p.y) (-1) := Ev.step (f := fun _ => some (-1)) (fun k => by simp only [poly_Side.j0]; rw [if_pos trivial]) (Ev.now _)
  unfold sideS
  refine Ev.congr (fun k => rfl) (Ev.bind (prog_right l hl) (ev_ite (fun c => ?_) (fun c => ?_)))
  · refine Ev.bind (a := decide (Ok p)) (Ev.congr (fun k => point_right_one p) (Ev.now _)) ?_
    by_cases h : Ok p
    · rw [if_pos ⟨c, h⟩, decide_eq_true h]
      exact Ev.step (f := fun k => poly_Side.l0 k l (sgB false) l.length ((0 : Nat) : Int) p.x p.y) (fun k => by simp only [poly_Side.j0]; rw [if_neg (by decide)]; rfl) (side_loop l hl (simple_ok (right_simple c)) p h l.length 0 false (by omega))
    · rw [if_neg (fun e => h e.2), decide_eq_false h]; exact hz
  · rw [if_neg (fun e => c e.1)]; exact hz
theorem sideF_off (l : List S28) (p : Pt) : ∀ (d q : Nat) (o : Bool), (∀ a, q ≤ a → a < q + d → onAt l p a = false) →
    sideF l p d q o = sgB (o ^^ (par (q + d) (crossAt l p) ^^ par q (crossAt l p)))
  | 0, q, o, _ => by simp [sideF, sgB]
  | d + 1, q, o, h => by
    simp only [sideF]
    rw [if_neg (by rw [h q (Nat.le_refl _) (by omega)]; decide), sideF_off l p d (q + 1) _ (fun a h1 h2 => h a (by omega) (by omega))]
    rw [show q + 1 + d = q + (d + 1) by omega, show par (q + 1) (crossAt l p) = (par q (crossAt l p) ^^ crossAt l p q) from rfl]
    congr 1
    generalize par (q + (d + 1)) (crossAt l p) = A
    generalize par q (crossAt l p) = B
    generalize crossAt l p q = C
    cases o <;> cases A <;> cases B <;> cases C <;> rfl
theorem odd_is (l : List S28) (p : Pt) : odd l.length (ptAt l) p = par l.length (crossAt l p) := rfl
theorem side_off (l : List S28) (p : Pt) (hr : rightS l = true) (hp : Ok p) (h : ∀ a, a < l.length → onAt l p a = false) : sideS l p = sgB (odd l.length (ptAt l) p) := by
  unfold sideS; rw [if_pos ⟨hr, hp⟩, sideF_off l p l.length 0 false (fun a _ h2 => h a (by omega)), odd_is]
  rw [Nat.zero_add]; simp [par]
end Go.Proofs.Ytfeekdoakoabeaa.Q
