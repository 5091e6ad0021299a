/-
  No cell of these rows narrows 'for every input' (looked for: loops, veiled, ifaces, maps, wideKeys, modest, calm, conditions, laid).
  DERIVED. THE GIVEN ROWS OF THIS SEAT. 11 by the template 'for every input the law returns true; each argument reads behind the call as it read before'; 0 by the template 'total and deterministic' (their statements: YtjmibjmlihmglaaTotals.lean).
  GIVEN WITH THE SEED: the statements are not yours to turn. If you find one false, say at which input.
  Laid BY PROGRAM, IN A SANDBOX (cutbox-rows.mjs): the forced cells as the released guide's own fill.sh prints them over the translation 95395ce73b700a00… (all of the seat's roots in one cut). By AI agents, Wed Nov 11 2026. No macro, syntax, notation, axiom, sorry.
-/
import Derived.Test.YtjmibjmlihmglaaChecked
import GoSem.Claim
import GoSem.ClaimJoined
import GoSem.ClaimMapViews
import Derived.JoinedTies
import Derived.KernelRfl
namespace Go.Proofs.Ytjmibjmlihmglaa
/- THE CELL 'sum', in the pinned program and in every row, IS THE sha256 OF THE DUMP (.gsa) THAT YtjmibjmlihmglaaProg.lean LOADS. Nothing in Lean hashes anything: it is a label: what it is worth is what the hold of that sum in a sandbox is worth. -/
noncomputable def Try.pinned : Pinned := { name := "ytjmibjmlihmglaa", sum := "95395ce73b700a00cb7fae54c852103331297aded74cf5e451a474707fd02178", checked := Try.checked }
namespace Rows
def none {H : Type} : Left H := { results := [], args := [] }

/-- 'apogeelaw13.RulesTells': WHATEVER THE INPUT: true; the input reads as it did. -/
def rulesTellsSpec : ChangeSpec := { name := "rulesTells", fn := fun _ => fun
  | [d1, d2] => { results := [.lit (.bool true)], args := [d1, d2] }
  | _ => none }
def rulesTellsRow : OpenClaim := { program := "ytjmibjmlihmglaa", sum := "95395ce73b700a00cb7fae54c852103331297aded74cf5e451a474707fd02178", func := "apogee/apogeelaw13.RulesTells", spec := "rulesTells", unfollowed := true, recurses := true, apart := false }
def RulesTellsSaid : Prop := rulesTellsRow.holds Try.pinned (OpenSpec.ofChange rulesTellsSpec)

/-- ITS FALSE NEIGHBOUR: 'it returns false'. Refute it at one input. -/
def rulesTellsWrong : ChangeSpec := { name := "rulesTells", fn := fun _ => fun
  | [d1, d2] => { results := [.lit (.bool false)], args := [d1, d2] }
  | _ => none }
def RulesTellsWrongFalsely : Prop := rulesTellsRow.holds Try.pinned (OpenSpec.ofChange rulesTellsWrong)

/-- 'apogeelaw13.RulesFirst': WHATEVER THE INPUT: true; the input reads as it did. -/
def rulesFirstSpec : ChangeSpec := { name := "rulesFirst", fn := fun _ => fun
  | [d1, d2, d3] => { results := [.lit (.bool true)], args := [d1, d2, d3] }
  | _ => none }
def rulesFirstRow : OpenClaim := { program := "ytjmibjmlihmglaa", sum := "95395ce73b700a00cb7fae54c852103331297aded74cf5e451a474707fd02178", func := "apogee/apogeelaw13.RulesFirst", spec := "rulesFirst", unfollowed := true, recurses := true, apart := false }
def RulesFirstSaid : Prop := rulesFirstRow.holds Try.pinned (OpenSpec.ofChange rulesFirstSpec)

/-- ITS FALSE NEIGHBOUR: 'it returns false'. Refute it at one input. -/
def rulesFirstWrong : ChangeSpec := { name := "rulesFirst", fn := fun _ => fun
  | [d1, d2, d3] => { results := [.lit (.bool false)], args := [d1, d2, d3] }
  | _ => none }
def RulesFirstWrongFalsely : Prop := rulesFirstRow.holds Try.pinned (OpenSpec.ofChange rulesFirstWrong)

/-- 'apogeelaw13.RulesWindow': WHATEVER THE INPUT: true; the input reads as it did. -/
def rulesWindowSpec : ChangeSpec := { name := "rulesWindow", fn := fun _ => fun
  | [d] => { results := [.lit (.bool true)], args := [d] }
  | _ => none }
def rulesWindowRow : OpenClaim := { program := "ytjmibjmlihmglaa", sum := "95395ce73b700a00cb7fae54c852103331297aded74cf5e451a474707fd02178", func := "apogee/apogeelaw13.RulesWindow", spec := "rulesWindow", unfollowed := true, recurses := true, apart := false }
def RulesWindowSaid : Prop := rulesWindowRow.holds Try.pinned (OpenSpec.ofChange rulesWindowSpec)

/-- ITS FALSE NEIGHBOUR: 'it returns false'. Refute it at one input. -/
def rulesWindowWrong : ChangeSpec := { name := "rulesWindow", fn := fun _ => fun
  | [d] => { results := [.lit (.bool false)], args := [d] }
  | _ => none }
def RulesWindowWrongFalsely : Prop := rulesWindowRow.holds Try.pinned (OpenSpec.ofChange rulesWindowWrong)

/-- 'apogeelaw13.RulesPhases': WHATEVER THE INPUT: true; the input reads as it did. -/
def rulesPhasesSpec : ChangeSpec := { name := "rulesPhases", fn := fun _ => fun
  | [d1, d2] => { results := [.lit (.bool true)], args := [d1, d2] }
  | _ => none }
def rulesPhasesRow : OpenClaim := { program := "ytjmibjmlihmglaa", sum := "95395ce73b700a00cb7fae54c852103331297aded74cf5e451a474707fd02178", func := "apogee/apogeelaw13.RulesPhases", spec := "rulesPhases", unfollowed := true, recurses := true, apart := false }
def RulesPhasesSaid : Prop := rulesPhasesRow.holds Try.pinned (OpenSpec.ofChange rulesPhasesSpec)

/-- ITS FALSE NEIGHBOUR: 'it returns false'. Refute it at one input. -/
def rulesPhasesWrong : ChangeSpec := { name := "rulesPhases", fn := fun _ => fun
  | [d1, d2] => { results := [.lit (.bool false)], args := [d1, d2] }
  | _ => none }
def RulesPhasesWrongFalsely : Prop := rulesPhasesRow.holds Try.pinned (OpenSpec.ofChange rulesPhasesWrong)

/-- 'apogeelaw11.PolyTells': WHATEVER THE INPUT: true; the input reads as it did. -/
def polyTellsSpec : ChangeSpec := { name := "polyTells", fn := fun _ => fun
  | [d1, d2] => { results := [.lit (.bool true)], args := [d1, d2] }
  | _ => none }
def polyTellsRow : OpenClaim := { program := "ytjmibjmlihmglaa", sum := "95395ce73b700a00cb7fae54c852103331297aded74cf5e451a474707fd02178", func := "apogee/apogeelaw11.PolyTells", spec := "polyTells", inPlace := ["math/bits.Add64", "math/bits.Sub64"], unfollowed := true, recurses := true, apart := false }
def PolyTellsSaid : Prop := polyTellsRow.holds Try.pinned (OpenSpec.ofChange polyTellsSpec)

/-- ITS FALSE NEIGHBOUR: 'it returns false'. Refute it at one input. -/
def polyTellsWrong : ChangeSpec := { name := "polyTells", fn := fun _ => fun
  | [d1, d2] => { results := [.lit (.bool false)], args := [d1, d2] }
  | _ => none }
def PolyTellsWrongFalsely : Prop := polyTellsRow.holds Try.pinned (OpenSpec.ofChange polyTellsWrong)

/-- 'apogeelaw11.PolyWays': WHATEVER THE INPUT: true; the input reads as it did. -/
def polyWaysSpec : ChangeSpec := { name := "polyWays", fn := fun _ => fun
  | [d1, d2, d3] => { results := [.lit (.bool true)], args := [d1, d2, d3] }
  | _ => none }
def polyWaysRow : OpenClaim := { program := "ytjmibjmlihmglaa", sum := "95395ce73b700a00cb7fae54c852103331297aded74cf5e451a474707fd02178", func := "apogee/apogeelaw11.PolyWays", spec := "polyWays", inPlace := ["math/bits.Add64", "math/bits.Sub64"], unfollowed := true, recurses := true, apart := false }
def PolyWaysSaid : Prop := polyWaysRow.holds Try.pinned (OpenSpec.ofChange polyWaysSpec)

/-- ITS FALSE NEIGHBOUR: 'it returns false'. Refute it at one input. -/
def polyWaysWrong : ChangeSpec := { name := "polyWays", fn := fun _ => fun
  | [d1, d2, d3] => { results := [.lit (.bool false)], args := [d1, d2, d3] }
  | _ => none }
def PolyWaysWrongFalsely : Prop := polyWaysRow.holds Try.pinned (OpenSpec.ofChange polyWaysWrong)

/-- 'apogeelaw11.PolyDown': WHATEVER THE INPUT: true; the input reads as it did. -/
def polyDownSpec : ChangeSpec := { name := "polyDown", fn := fun _ => fun
  | [d] => { results := [.lit (.bool true)], args := [d] }
  | _ => none }
def polyDownRow : OpenClaim := { program := "ytjmibjmlihmglaa", sum := "95395ce73b700a00cb7fae54c852103331297aded74cf5e451a474707fd02178", func := "apogee/apogeelaw11.PolyDown", spec := "polyDown", inPlace := ["math/bits.Add64", "math/bits.Sub64"], unfollowed := true, recurses := true, apart := false }
def PolyDownSaid : Prop := polyDownRow.holds Try.pinned (OpenSpec.ofChange polyDownSpec)

/-- ITS FALSE NEIGHBOUR: 'it returns false'. Refute it at one input. -/
def polyDownWrong : ChangeSpec := { name := "polyDown", fn := fun _ => fun
  | [d] => { results := [.lit (.bool false)], args := [d] }
  | _ => none }
def PolyDownWrongFalsely : Prop := polyDownRow.holds Try.pinned (OpenSpec.ofChange polyDownWrong)

/-- 'apogeelaw12.BoxMeets': WHATEVER THE INPUT: true; the input reads as it did. -/
def boxMeetsSpec : ChangeSpec := { name := "boxMeets", fn := fun _ => fun
  | [d1, d2, d3] => { results := [.lit (.bool true)], args := [d1, d2, d3] }
  | _ => none }
def boxMeetsRow : OpenClaim := { program := "ytjmibjmlihmglaa", sum := "95395ce73b700a00cb7fae54c852103331297aded74cf5e451a474707fd02178", func := "apogee/apogeelaw12.BoxMeets", spec := "boxMeets", inPlace := ["math/bits.Add64"], unfollowed := true, recurses := true, apart := false }
def BoxMeetsSaid : Prop := boxMeetsRow.holds Try.pinned (OpenSpec.ofChange boxMeetsSpec)

/-- ITS FALSE NEIGHBOUR: 'it returns false'. Refute it at one input. -/
def boxMeetsWrong : ChangeSpec := { name := "boxMeets", fn := fun _ => fun
  | [d1, d2, d3] => { results := [.lit (.bool false)], args := [d1, d2, d3] }
  | _ => none }
def BoxMeetsWrongFalsely : Prop := boxMeetsRow.holds Try.pinned (OpenSpec.ofChange boxMeetsWrong)

/-- 'apogeelaw12.BoxRelates': WHATEVER THE INPUT: true; the input reads as it did. -/
def boxRelatesSpec : ChangeSpec := { name := "boxRelates", fn := fun _ => fun
  | [d1, d2] => { results := [.lit (.bool true)], args := [d1, d2] }
  | _ => none }
def boxRelatesRow : OpenClaim := { program := "ytjmibjmlihmglaa", sum := "95395ce73b700a00cb7fae54c852103331297aded74cf5e451a474707fd02178", func := "apogee/apogeelaw12.BoxRelates", spec := "boxRelates", inPlace := ["math/bits.Add64"], unfollowed := true, recurses := true, apart := false }
def BoxRelatesSaid : Prop := boxRelatesRow.holds Try.pinned (OpenSpec.ofChange boxRelatesSpec)

/-- ITS FALSE NEIGHBOUR: 'it returns false'. Refute it at one input. -/
def boxRelatesWrong : ChangeSpec := { name := "boxRelates", fn := fun _ => fun
  | [d1, d2] => { results := [.lit (.bool false)], args := [d1, d2] }
  | _ => none }
def BoxRelatesWrongFalsely : Prop := boxRelatesRow.holds Try.pinned (OpenSpec.ofChange boxRelatesWrong)

/-- 'apogeelaw12.BoxStays': WHATEVER THE INPUT: true; the input reads as it did. -/
def boxStaysSpec : ChangeSpec := { name := "boxStays", fn := fun _ => fun
  | [d1, d2, d3, d4] => { results := [.lit (.bool true)], args := [d1, d2, d3, d4] }
  | _ => none }
def boxStaysRow : OpenClaim := { program := "ytjmibjmlihmglaa", sum := "95395ce73b700a00cb7fae54c852103331297aded74cf5e451a474707fd02178", func := "apogee/apogeelaw12.BoxStays", spec := "boxStays", inPlace := ["math/bits.Add64"], unfollowed := true, recurses := true, apart := false }
def BoxStaysSaid : Prop := boxStaysRow.holds Try.pinned (OpenSpec.ofChange boxStaysSpec)

/-- ITS FALSE NEIGHBOUR: 'it returns false'. Refute it at one input. -/
def boxStaysWrong : ChangeSpec := { name := "boxStays", fn := fun _ => fun
  | [d1, d2, d3, d4] => { results := [.lit (.bool false)], args := [d1, d2, d3, d4] }
  | _ => none }
def BoxStaysWrongFalsely : Prop := boxStaysRow.holds Try.pinned (OpenSpec.ofChange boxStaysWrong)

/-- 'apogeelaw12.BoxPoint': WHATEVER THE INPUT: true; the input reads as it did. -/
def boxPointSpec : ChangeSpec := { name := "boxPoint", fn := fun _ => fun
  | [d1, d2] => { results := [.lit (.bool true)], args := [d1, d2] }
  | _ => none }
def boxPointRow : OpenClaim := { program := "ytjmibjmlihmglaa", sum := "95395ce73b700a00cb7fae54c852103331297aded74cf5e451a474707fd02178", func := "apogee/apogeelaw12.BoxPoint", spec := "boxPoint", inPlace := ["math/bits.Add64"], unfollowed := true, recurses := true, apart := false }
def BoxPointSaid : Prop := boxPointRow.holds Try.pinned (OpenSpec.ofChange boxPointSpec)

/-- ITS FALSE NEIGHBOUR: 'it returns false'. Refute it at one input. -/
def boxPointWrong : ChangeSpec := { name := "boxPoint", fn := fun _ => fun
  | [d1, d2] => { results := [.lit (.bool false)], args := [d1, d2] }
  | _ => none }
def BoxPointWrongFalsely : Prop := boxPointRow.holds Try.pinned (OpenSpec.ofChange boxPointWrong)

/- THE SECOND FORM. 'bulk': how many values and letters a reading holds, each counted each time it is reached (what is shared counts as often as it is met; a slice's spare places count too). A statement '..UptoSaid' is the law's where the arguments, and the package variables that the reading takes, are together of bulk at most 1048576: NARROWER than '..Said'. Prove '..Said' where nothing that the law and all that it calls make is longer than what came in: it says more and counts as full. Else prove '..UptoSaid'. A law counts once. -/
mutual
def uptoBulk {H : Type} : DataW H → Nat
  | .lit (.string bytes) => bytes.length + 1
  | .lit _ => 1
  | .nil => 1
  | .ptr d => uptoBulk d + 1
  | .slice elems spare => uptoBulkAll elems + uptoBulkAll spare + 1
  | .agg parts => uptoBulkAll parts + 1
  | .iface _ d => uptoBulk d + 1
  | .map entries => uptoBulkEntries entries + 1
  | .held _ => 1
def uptoBulkAll {H : Type} : List (DataW H) → Nat
  | [] => 0
  | d :: r => uptoBulk d + uptoBulkAll r
def uptoBulkEntries {H : Type} : List (Lit × DataW H) → Nat
  | [] => 0
  | x :: r => uptoBulkEntry x + uptoBulkEntries r
def uptoBulkEntry {H : Type} : Lit × DataW H → Nat
  | (.string bytes, d) => bytes.length + uptoBulk d + 1
  | (_, d) => uptoBulk d + 1
 end
def uptoSmall : (H : Type) → List (DataW H) → Bool := fun _ ds => decide (uptoBulkAll ds ≤ 1048576)
def OpenSpec.upto (s : _root_.Go.ChangeSpec) : _root_.Go.OpenSpec := { _root_.Go.OpenSpec.ofChange s with cond := some uptoSmall }

/-- 'apogeelaw13.RulesTells', WHERE WHAT IT READS IS OF BULK AT MOST 1048576: true; the input reads as it did. -/
def rulesTellsUptoRow : OpenClaim := { program := "ytjmibjmlihmglaa", sum := "95395ce73b700a00cb7fae54c852103331297aded74cf5e451a474707fd02178", func := "apogee/apogeelaw13.RulesTells", spec := "rulesTells", unfollowed := true, recurses := true, apart := false, narrowed := true }
def RulesTellsUptoSaid : Prop := rulesTellsUptoRow.holds Try.pinned (OpenSpec.upto rulesTellsSpec)

/-- 'apogeelaw13.RulesFirst', WHERE WHAT IT READS IS OF BULK AT MOST 1048576: true; the input reads as it did. -/
def rulesFirstUptoRow : OpenClaim := { program := "ytjmibjmlihmglaa", sum := "95395ce73b700a00cb7fae54c852103331297aded74cf5e451a474707fd02178", func := "apogee/apogeelaw13.RulesFirst", spec := "rulesFirst", unfollowed := true, recurses := true, apart := false, narrowed := true }
def RulesFirstUptoSaid : Prop := rulesFirstUptoRow.holds Try.pinned (OpenSpec.upto rulesFirstSpec)

/-- 'apogeelaw13.RulesWindow', WHERE WHAT IT READS IS OF BULK AT MOST 1048576: true; the input reads as it did. -/
def rulesWindowUptoRow : OpenClaim := { program := "ytjmibjmlihmglaa", sum := "95395ce73b700a00cb7fae54c852103331297aded74cf5e451a474707fd02178", func := "apogee/apogeelaw13.RulesWindow", spec := "rulesWindow", unfollowed := true, recurses := true, apart := false, narrowed := true }
def RulesWindowUptoSaid : Prop := rulesWindowUptoRow.holds Try.pinned (OpenSpec.upto rulesWindowSpec)

/-- 'apogeelaw13.RulesPhases', WHERE WHAT IT READS IS OF BULK AT MOST 1048576: true; the input reads as it did. -/
def rulesPhasesUptoRow : OpenClaim := { program := "ytjmibjmlihmglaa", sum := "95395ce73b700a00cb7fae54c852103331297aded74cf5e451a474707fd02178", func := "apogee/apogeelaw13.RulesPhases", spec := "rulesPhases", unfollowed := true, recurses := true, apart := false, narrowed := true }
def RulesPhasesUptoSaid : Prop := rulesPhasesUptoRow.holds Try.pinned (OpenSpec.upto rulesPhasesSpec)

/-- 'apogeelaw11.PolyTells', WHERE WHAT IT READS IS OF BULK AT MOST 1048576: true; the input reads as it did. -/
def polyTellsUptoRow : OpenClaim := { program := "ytjmibjmlihmglaa", sum := "95395ce73b700a00cb7fae54c852103331297aded74cf5e451a474707fd02178", func := "apogee/apogeelaw11.PolyTells", spec := "polyTells", inPlace := ["math/bits.Add64", "math/bits.Sub64"], unfollowed := true, recurses := true, apart := false, narrowed := true }
def PolyTellsUptoSaid : Prop := polyTellsUptoRow.holds Try.pinned (OpenSpec.upto polyTellsSpec)

/-- 'apogeelaw11.PolyWays', WHERE WHAT IT READS IS OF BULK AT MOST 1048576: true; the input reads as it did. -/
def polyWaysUptoRow : OpenClaim := { program := "ytjmibjmlihmglaa", sum := "95395ce73b700a00cb7fae54c852103331297aded74cf5e451a474707fd02178", func := "apogee/apogeelaw11.PolyWays", spec := "polyWays", inPlace := ["math/bits.Add64", "math/bits.Sub64"], unfollowed := true, recurses := true, apart := false, narrowed := true }
def PolyWaysUptoSaid : Prop := polyWaysUptoRow.holds Try.pinned (OpenSpec.upto polyWaysSpec)

/-- 'apogeelaw11.PolyDown', WHERE WHAT IT READS IS OF BULK AT MOST 1048576: true; the input reads as it did. -/
def polyDownUptoRow : OpenClaim := { program := "ytjmibjmlihmglaa", sum := "95395ce73b700a00cb7fae54c852103331297aded74cf5e451a474707fd02178", func := "apogee/apogeelaw11.PolyDown", spec := "polyDown", inPlace := ["math/bits.Add64", "math/bits.Sub64"], unfollowed := true, recurses := true, apart := false, narrowed := true }
def PolyDownUptoSaid : Prop := polyDownUptoRow.holds Try.pinned (OpenSpec.upto polyDownSpec)

/-- 'apogeelaw12.BoxMeets', WHERE WHAT IT READS IS OF BULK AT MOST 1048576: true; the input reads as it did. -/
def boxMeetsUptoRow : OpenClaim := { program := "ytjmibjmlihmglaa", sum := "95395ce73b700a00cb7fae54c852103331297aded74cf5e451a474707fd02178", func := "apogee/apogeelaw12.BoxMeets", spec := "boxMeets", inPlace := ["math/bits.Add64"], unfollowed := true, recurses := true, apart := false, narrowed := true }
def BoxMeetsUptoSaid : Prop := boxMeetsUptoRow.holds Try.pinned (OpenSpec.upto boxMeetsSpec)

/-- 'apogeelaw12.BoxRelates', WHERE WHAT IT READS IS OF BULK AT MOST 1048576: true; the input reads as it did. -/
def boxRelatesUptoRow : OpenClaim := { program := "ytjmibjmlihmglaa", sum := "95395ce73b700a00cb7fae54c852103331297aded74cf5e451a474707fd02178", func := "apogee/apogeelaw12.BoxRelates", spec := "boxRelates", inPlace := ["math/bits.Add64"], unfollowed := true, recurses := true, apart := false, narrowed := true }
def BoxRelatesUptoSaid : Prop := boxRelatesUptoRow.holds Try.pinned (OpenSpec.upto boxRelatesSpec)

/-- 'apogeelaw12.BoxStays', WHERE WHAT IT READS IS OF BULK AT MOST 1048576: true; the input reads as it did. -/
def boxStaysUptoRow : OpenClaim := { program := "ytjmibjmlihmglaa", sum := "95395ce73b700a00cb7fae54c852103331297aded74cf5e451a474707fd02178", func := "apogee/apogeelaw12.BoxStays", spec := "boxStays", inPlace := ["math/bits.Add64"], unfollowed := true, recurses := true, apart := false, narrowed := true }
def BoxStaysUptoSaid : Prop := boxStaysUptoRow.holds Try.pinned (OpenSpec.upto boxStaysSpec)

/-- 'apogeelaw12.BoxPoint', WHERE WHAT IT READS IS OF BULK AT MOST 1048576: true; the input reads as it did. -/
def boxPointUptoRow : OpenClaim := { program := "ytjmibjmlihmglaa", sum := "95395ce73b700a00cb7fae54c852103331297aded74cf5e451a474707fd02178", func := "apogee/apogeelaw12.BoxPoint", spec := "boxPoint", inPlace := ["math/bits.Add64"], unfollowed := true, recurses := true, apart := false, narrowed := true }
def BoxPointUptoSaid : Prop := boxPointUptoRow.holds Try.pinned (OpenSpec.upto boxPointSpec)

end Rows
end Go.Proofs.Ytjmibjmlihmglaa
