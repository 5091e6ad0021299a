/-
  No cell of these rows narrows 'for every input' (looked for: loops, veiled, ifaces, maps, wideKeys, modest, calm, conditions, laid).
  DERIVED. THE GIVEN ROWS OF THIS SEAT. 4 by the template 'for every input the law returns true; each argument reads behind the call as it read before'; 0 by the template 'total and deterministic' (their statements: YtlifeghjcgbfnaaTotals.lean).
  GIVEN WITH THE SEED: the statements are not yours to turn. If you find one false, say at which input.
  Laid BY PROGRAM, IN A SANDBOX (cutbox-rows.mjs): the forced cells as the released guide's own fill.sh prints them over the translation 123948c74e9bcd2e… (all of the seat's roots in one cut). By AI agents, Wed Nov 11 2026. No macro, syntax, notation, axiom, sorry.
-/
import Derived.Test.YtlifeghjcgbfnaaChecked
import GoSem.Claim
import GoSem.ClaimJoined
import GoSem.ClaimMapViews
import Derived.JoinedTies
import Derived.KernelRfl
namespace Go.Proofs.Ytlifeghjcgbfnaa
/- THE CELL 'sum', in the pinned program and in every row, IS THE sha256 OF THE DUMP (.gsa) THAT YtlifeghjcgbfnaaProg.lean LOADS. Nothing in Lean hashes anything: it is a label: what it is worth is what the hold of that sum in a sandbox is worth. -/
noncomputable def Try.pinned : Pinned := { name := "ytlifeghjcgbfnaa", sum := "123948c74e9bcd2ed9f066d0c06a6c0d69fdfd6f8b67bccd9b600be48c7cc577", checked := Try.checked }
namespace Rows
def none {H : Type} : Left H := { results := [], args := [] }

/-- 'apogeelaw17.FallTells': WHATEVER THE INPUT: true; the input reads as it did. -/
def fallTellsSpec : ChangeSpec := { name := "fallTells", fn := fun _ => fun
  | [d1, d2, d3, d4] => { results := [.lit (.bool true)], args := [d1, d2, d3, d4] }
  | _ => none }
def fallTellsRow : OpenClaim := { program := "ytlifeghjcgbfnaa", sum := "123948c74e9bcd2ed9f066d0c06a6c0d69fdfd6f8b67bccd9b600be48c7cc577", func := "apogee/apogeelaw17.FallTells", spec := "fallTells", inPlace := ["math/bits.Add64"], apart := false }
def FallTellsSaid : Prop := fallTellsRow.holds Try.pinned (OpenSpec.ofChange fallTellsSpec)

/-- ITS FALSE NEIGHBOUR: 'it returns false'. Refute it at one input. -/
def fallTellsWrong : ChangeSpec := { name := "fallTells", fn := fun _ => fun
  | [d1, d2, d3, d4] => { results := [.lit (.bool false)], args := [d1, d2, d3, d4] }
  | _ => none }
def FallTellsWrongFalsely : Prop := fallTellsRow.holds Try.pinned (OpenSpec.ofChange fallTellsWrong)

/-- 'apogeelaw10.PointTells': WHATEVER THE INPUT: true; the input reads as it did. -/
def pointTellsSpec : ChangeSpec := { name := "pointTells", fn := fun _ => fun
  | [d1, d2, d3, d4] => { results := [.lit (.bool true)], args := [d1, d2, d3, d4] }
  | _ => none }
def pointTellsRow : OpenClaim := { program := "ytlifeghjcgbfnaa", sum := "123948c74e9bcd2ed9f066d0c06a6c0d69fdfd6f8b67bccd9b600be48c7cc577", func := "apogee/apogeelaw10.PointTells", spec := "pointTells", inPlace := ["math/bits.Add64"], unfollowed := true, recurses := true, apart := false }
def PointTellsSaid : Prop := pointTellsRow.holds Try.pinned (OpenSpec.ofChange pointTellsSpec)

/-- ITS FALSE NEIGHBOUR: 'it returns false'. Refute it at one input. -/
def pointTellsWrong : ChangeSpec := { name := "pointTells", fn := fun _ => fun
  | [d1, d2, d3, d4] => { results := [.lit (.bool false)], args := [d1, d2, d3, d4] }
  | _ => none }
def PointTellsWrongFalsely : Prop := pointTellsRow.holds Try.pinned (OpenSpec.ofChange pointTellsWrong)

/-- 'apogeelaw18.ImpactSure': WHATEVER THE INPUT: true; the input reads as it did. -/
def impactSureSpec : ChangeSpec := { name := "impactSure", fn := fun _ => fun
  | [d1, d2, d3, d4] => { results := [.lit (.bool true)], args := [d1, d2, d3, d4] }
  | _ => none }
def impactSureRow : OpenClaim := { program := "ytlifeghjcgbfnaa", sum := "123948c74e9bcd2ed9f066d0c06a6c0d69fdfd6f8b67bccd9b600be48c7cc577", func := "apogee/apogeelaw18.ImpactSure", spec := "impactSure", inPlace := ["math/bits.Add64"], apart := false }
def ImpactSureSaid : Prop := impactSureRow.holds Try.pinned (OpenSpec.ofChange impactSureSpec)

/-- ITS FALSE NEIGHBOUR: 'it returns false'. Refute it at one input. -/
def impactSureWrong : ChangeSpec := { name := "impactSure", fn := fun _ => fun
  | [d1, d2, d3, d4] => { results := [.lit (.bool false)], args := [d1, d2, d3, d4] }
  | _ => none }
def ImpactSureWrongFalsely : Prop := impactSureRow.holds Try.pinned (OpenSpec.ofChange impactSureWrong)

/-- 'apogeelaw18.ImpactGoes': WHATEVER THE INPUT: true; the input reads as it did. -/
def impactGoesSpec : ChangeSpec := { name := "impactGoes", fn := fun _ => fun
  | [d1, d2] => { results := [.lit (.bool true)], args := [d1, d2] }
  | _ => none }
def impactGoesRow : OpenClaim := { program := "ytlifeghjcgbfnaa", sum := "123948c74e9bcd2ed9f066d0c06a6c0d69fdfd6f8b67bccd9b600be48c7cc577", func := "apogee/apogeelaw18.ImpactGoes", spec := "impactGoes", inPlace := ["math/bits.Add64"], apart := false }
def ImpactGoesSaid : Prop := impactGoesRow.holds Try.pinned (OpenSpec.ofChange impactGoesSpec)

/-- ITS FALSE NEIGHBOUR: 'it returns false'. Refute it at one input. -/
def impactGoesWrong : ChangeSpec := { name := "impactGoes", fn := fun _ => fun
  | [d1, d2] => { results := [.lit (.bool false)], args := [d1, d2] }
  | _ => none }
def ImpactGoesWrongFalsely : Prop := impactGoesRow.holds Try.pinned (OpenSpec.ofChange impactGoesWrong)

/- THE SECOND FORM. 'bulk': how many values and letters a reading holds, each counted each time it is reached (what is shared counts as often as it is met; a slice's spare places count too). A statement '..UptoSaid' is the law's where the arguments, and the package variables that the reading takes, are together of bulk at most 1048576: NARROWER than '..Said'. Prove '..Said' where nothing that the law and all that it calls make is longer than what came in: it says more and counts as full. Else prove '..UptoSaid'. A law counts once. -/
mutual
def uptoBulk {H : Type} : DataW H → Nat
  | .lit (.string bytes) => bytes.length + 1
  | .lit _ => 1
  | .nil => 1
  | .ptr d => uptoBulk d + 1
  | .slice elems spare => uptoBulkAll elems + uptoBulkAll spare + 1
  | .agg parts => uptoBulkAll parts + 1
  | .iface _ d => uptoBulk d + 1
  | .map entries => uptoBulkEntries entries + 1
  | .held _ => 1
def uptoBulkAll {H : Type} : List (DataW H) → Nat
  | [] => 0
  | d :: r => uptoBulk d + uptoBulkAll r
def uptoBulkEntries {H : Type} : List (Lit × DataW H) → Nat
  | [] => 0
  | x :: r => uptoBulkEntry x + uptoBulkEntries r
def uptoBulkEntry {H : Type} : Lit × DataW H → Nat
  | (.string bytes, d) => bytes.length + uptoBulk d + 1
  | (_, d) => uptoBulk d + 1
 end
def uptoSmall : (H : Type) → List (DataW H) → Bool := fun _ ds => decide (uptoBulkAll ds ≤ 1048576)
def OpenSpec.upto (s : _root_.Go.ChangeSpec) : _root_.Go.OpenSpec := { _root_.Go.OpenSpec.ofChange s with cond := some uptoSmall }

/-- 'apogeelaw17.FallTells', WHERE WHAT IT READS IS OF BULK AT MOST 1048576: true; the input reads as it did. -/
def fallTellsUptoRow : OpenClaim := { program := "ytlifeghjcgbfnaa", sum := "123948c74e9bcd2ed9f066d0c06a6c0d69fdfd6f8b67bccd9b600be48c7cc577", func := "apogee/apogeelaw17.FallTells", spec := "fallTells", inPlace := ["math/bits.Add64"], apart := false, narrowed := true }
def FallTellsUptoSaid : Prop := fallTellsUptoRow.holds Try.pinned (OpenSpec.upto fallTellsSpec)

/-- 'apogeelaw10.PointTells', WHERE WHAT IT READS IS OF BULK AT MOST 1048576: true; the input reads as it did. -/
def pointTellsUptoRow : OpenClaim := { program := "ytlifeghjcgbfnaa", sum := "123948c74e9bcd2ed9f066d0c06a6c0d69fdfd6f8b67bccd9b600be48c7cc577", func := "apogee/apogeelaw10.PointTells", spec := "pointTells", inPlace := ["math/bits.Add64"], unfollowed := true, recurses := true, apart := false, narrowed := true }
def PointTellsUptoSaid : Prop := pointTellsUptoRow.holds Try.pinned (OpenSpec.upto pointTellsSpec)

/-- 'apogeelaw18.ImpactSure', WHERE WHAT IT READS IS OF BULK AT MOST 1048576: true; the input reads as it did. -/
def impactSureUptoRow : OpenClaim := { program := "ytlifeghjcgbfnaa", sum := "123948c74e9bcd2ed9f066d0c06a6c0d69fdfd6f8b67bccd9b600be48c7cc577", func := "apogee/apogeelaw18.ImpactSure", spec := "impactSure", inPlace := ["math/bits.Add64"], apart := false, narrowed := true }
def ImpactSureUptoSaid : Prop := impactSureUptoRow.holds Try.pinned (OpenSpec.upto impactSureSpec)

/-- 'apogeelaw18.ImpactGoes', WHERE WHAT IT READS IS OF BULK AT MOST 1048576: true; the input reads as it did. -/
def impactGoesUptoRow : OpenClaim := { program := "ytlifeghjcgbfnaa", sum := "123948c74e9bcd2ed9f066d0c06a6c0d69fdfd6f8b67bccd9b600be48c7cc577", func := "apogee/apogeelaw18.ImpactGoes", spec := "impactGoes", inPlace := ["math/bits.Add64"], apart := false, narrowed := true }
def ImpactGoesUptoSaid : Prop := impactGoesUptoRow.holds Try.pinned (OpenSpec.upto impactGoesSpec)

end Rows
end Go.Proofs.Ytlifeghjcgbfnaa
