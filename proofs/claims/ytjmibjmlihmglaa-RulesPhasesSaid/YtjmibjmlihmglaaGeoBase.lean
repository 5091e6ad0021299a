/- Plane geometry over whole numbers: turns, ways, and where ways meet. -/
namespace Go.Proofs.Ytjmibjmlihmglaa.Geo
structure Pt where
  x : Int
  y : Int
def cr (a b c : Pt) : Int := (b.x - a.x) * (c.y - a.y) - (b.y - a.y) * (c.x - a.x)
def On (p a b : Pt) : Prop :=
  cr a b p = 0 ∧ min a.x b.x ≤ p.x ∧ p.x ≤ max a.x b.x ∧ min a.y b.y ≤ p.y ∧ p.y ≤ max a.y b.y
def Opp (u v : Int) : Prop := (u < 0 ∧ 0 < v) ∨ (0 < u ∧ v < 0)
def Meet (a b c d : Pt) : Prop :=
  On a c d ∨ On b c d ∨ On c a b ∨ On d a b ∨ (Opp (cr a b c) (cr a b d) ∧ Opp (cr c d a) (cr c d b))
instance (p a b : Pt) : Decidable (On p a b) := inferInstanceAs (Decidable (_ ∧ _))
instance (u v : Int) : Decidable (Opp u v) := inferInstanceAs (Decidable (_ ∨ _))
instance (a b c d : Pt) : Decidable (Meet a b c d) := inferInstanceAs (Decidable (_ ∨ _))
def sgn (z : Int) : Int := if z < 0 then -1 else if z = 0 then 0 else 1
def Ok (p : Pt) : Prop := (-1099511627776 ≤ p.x ∧ p.x ≤ 1099511627776) ∧ (-1099511627776 ≤ p.y ∧ p.y ≤ 1099511627776)
instance (p : Pt) : Decidable (Ok p) := inferInstanceAs (Decidable (_ ∧ _))
def turnS (a b c : Pt) : Int := if Ok a ∧ Ok b ∧ Ok c then sgn (cr a b c) else 0
def onS (p a b : Pt) : Bool := decide (Ok a ∧ Ok b ∧ Ok p ∧ On p a b)
def meetS (a b c d : Pt) : Bool := decide (Ok a ∧ Ok b ∧ Ok c ∧ Ok d ∧ Meet a b c d)
end Go.Proofs.Ytjmibjmlihmglaa.Geo
