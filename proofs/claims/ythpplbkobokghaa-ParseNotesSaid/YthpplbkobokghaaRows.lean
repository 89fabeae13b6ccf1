/-
  No cell of these rows narrows 'for every input' (looked for: loops, veiled, ifaces, maps, wideKeys, modest, calm, conditions, laid).
  DERIVED. THE GIVEN ROWS OF THIS SEAT. 10 by the template 'for every input the law returns true; each argument reads behind the call as it read before'; 0 by the template 'total and deterministic' (their statements: YthpplbkobokghaaTotals.lean).
  GIVEN WITH THE SEED: the statements are not yours to turn. If you find one false, say at which input.
  Laid BY PROGRAM, IN A SANDBOX (cutbox-rows.mjs): the forced cells as the released guide's own fill.sh prints them over the translation 8b473eae45441ab9… (all of the seat's roots in one cut). By AI agents, Wed Nov 11 2026. No macro, syntax, notation, axiom, sorry.
-/
import Derived.Test.YthpplbkobokghaaChecked
import GoSem.Claim
import GoSem.ClaimJoined
import GoSem.ClaimMapViews
import Derived.JoinedTies
import Derived.KernelRfl
namespace Go.Proofs.Ythpplbkobokghaa
/- THE CELL 'sum', in the pinned program and in every row, IS THE sha256 OF THE DUMP (.gsa) THAT YthpplbkobokghaaProg.lean LOADS. Nothing in Lean hashes anything: it is a label: what it is worth is what the hold of that sum in a sandbox is worth. -/
noncomputable def Try.pinned : Pinned := { name := "ythpplbkobokghaa", sum := "8b473eae45441ab9663513e989d54d6da0a76a72237d3068918346e7ba9a8662", checked := Try.checked }
namespace Rows
def none {H : Type} : Left H := { results := [], args := [] }

/-- 'galleylaw13.ParseLevels': WHATEVER THE INPUT: true; the input reads as it did. -/
def parseLevelsSpec : ChangeSpec := { name := "parseLevels", fn := fun _ => fun
  | [d1, d2] => { results := [.lit (.bool true)], args := [d1, d2] }
  | _ => none }
def parseLevelsRow : OpenClaim := { program := "ythpplbkobokghaa", sum := "8b473eae45441ab9663513e989d54d6da0a76a72237d3068918346e7ba9a8662", func := "galley/galleylaw13.ParseLevels", spec := "parseLevels", unfollowed := true, recurses := true, apart := false }
def ParseLevelsSaid : Prop := parseLevelsRow.holds Try.pinned (OpenSpec.ofChange parseLevelsSpec)

/-- ITS FALSE NEIGHBOUR: 'it returns false'. Refute it at one input. -/
def parseLevelsWrong : ChangeSpec := { name := "parseLevels", fn := fun _ => fun
  | [d1, d2] => { results := [.lit (.bool false)], args := [d1, d2] }
  | _ => none }
def ParseLevelsWrongFalsely : Prop := parseLevelsRow.holds Try.pinned (OpenSpec.ofChange parseLevelsWrong)

/-- 'galleylaw13.ParseGroups': WHATEVER THE INPUT: true; the input reads as it did. -/
def parseGroupsSpec : ChangeSpec := { name := "parseGroups", fn := fun _ => fun
  | [d1, d2] => { results := [.lit (.bool true)], args := [d1, d2] }
  | _ => none }
def parseGroupsRow : OpenClaim := { program := "ythpplbkobokghaa", sum := "8b473eae45441ab9663513e989d54d6da0a76a72237d3068918346e7ba9a8662", func := "galley/galleylaw13.ParseGroups", spec := "parseGroups", unfollowed := true, recurses := true, apart := false }
def ParseGroupsSaid : Prop := parseGroupsRow.holds Try.pinned (OpenSpec.ofChange parseGroupsSpec)

/-- ITS FALSE NEIGHBOUR: 'it returns false'. Refute it at one input. -/
def parseGroupsWrong : ChangeSpec := { name := "parseGroups", fn := fun _ => fun
  | [d1, d2] => { results := [.lit (.bool false)], args := [d1, d2] }
  | _ => none }
def ParseGroupsWrongFalsely : Prop := parseGroupsRow.holds Try.pinned (OpenSpec.ofChange parseGroupsWrong)

/-- 'galleylaw13.ParseParens': WHATEVER THE INPUT: true; the input reads as it did. -/
def parseParensSpec : ChangeSpec := { name := "parseParens", fn := fun _ => fun
  | [d1, d2] => { results := [.lit (.bool true)], args := [d1, d2] }
  | _ => none }
def parseParensRow : OpenClaim := { program := "ythpplbkobokghaa", sum := "8b473eae45441ab9663513e989d54d6da0a76a72237d3068918346e7ba9a8662", func := "galley/galleylaw13.ParseParens", spec := "parseParens", unfollowed := true, recurses := true, apart := false }
def ParseParensSaid : Prop := parseParensRow.holds Try.pinned (OpenSpec.ofChange parseParensSpec)

/-- ITS FALSE NEIGHBOUR: 'it returns false'. Refute it at one input. -/
def parseParensWrong : ChangeSpec := { name := "parseParens", fn := fun _ => fun
  | [d1, d2] => { results := [.lit (.bool false)], args := [d1, d2] }
  | _ => none }
def ParseParensWrongFalsely : Prop := parseParensRow.holds Try.pinned (OpenSpec.ofChange parseParensWrong)

/-- 'galleylaw13.ParseWrong': WHATEVER THE INPUT: true; the input reads as it did. -/
def parseWrongSpec : ChangeSpec := { name := "parseWrong", fn := fun _ => fun
  | [d] => { results := [.lit (.bool true)], args := [d] }
  | _ => none }
def parseWrongRow : OpenClaim := { program := "ythpplbkobokghaa", sum := "8b473eae45441ab9663513e989d54d6da0a76a72237d3068918346e7ba9a8662", func := "galley/galleylaw13.ParseWrong", spec := "parseWrong", unfollowed := true, recurses := true, apart := false }
def ParseWrongSaid : Prop := parseWrongRow.holds Try.pinned (OpenSpec.ofChange parseWrongSpec)

/-- ITS FALSE NEIGHBOUR: 'it returns false'. Refute it at one input. -/
def parseWrongWrong : ChangeSpec := { name := "parseWrong", fn := fun _ => fun
  | [d] => { results := [.lit (.bool false)], args := [d] }
  | _ => none }
def ParseWrongWrongFalsely : Prop := parseWrongRow.holds Try.pinned (OpenSpec.ofChange parseWrongWrong)

/-- 'galleylaw13.ParseLits': WHATEVER THE INPUT: true; the input reads as it did. -/
def parseLitsSpec : ChangeSpec := { name := "parseLits", fn := fun _ => fun
  | [d] => { results := [.lit (.bool true)], args := [d] }
  | _ => none }
def parseLitsRow : OpenClaim := { program := "ythpplbkobokghaa", sum := "8b473eae45441ab9663513e989d54d6da0a76a72237d3068918346e7ba9a8662", func := "galley/galleylaw13.ParseLits", spec := "parseLits", unfollowed := true, recurses := true, apart := false }
def ParseLitsSaid : Prop := parseLitsRow.holds Try.pinned (OpenSpec.ofChange parseLitsSpec)

/-- ITS FALSE NEIGHBOUR: 'it returns false'. Refute it at one input. -/
def parseLitsWrong : ChangeSpec := { name := "parseLits", fn := fun _ => fun
  | [d] => { results := [.lit (.bool false)], args := [d] }
  | _ => none }
def ParseLitsWrongFalsely : Prop := parseLitsRow.holds Try.pinned (OpenSpec.ofChange parseLitsWrong)

/-- 'galleylaw13.ParseNotes': WHATEVER THE INPUT: true; the input reads as it did. -/
def parseNotesSpec : ChangeSpec := { name := "parseNotes", fn := fun _ => fun
  | [d] => { results := [.lit (.bool true)], args := [d] }
  | _ => none }
def parseNotesRow : OpenClaim := { program := "ythpplbkobokghaa", sum := "8b473eae45441ab9663513e989d54d6da0a76a72237d3068918346e7ba9a8662", func := "galley/galleylaw13.ParseNotes", spec := "parseNotes", unfollowed := true, recurses := true, apart := false }
def ParseNotesSaid : Prop := parseNotesRow.holds Try.pinned (OpenSpec.ofChange parseNotesSpec)

/-- ITS FALSE NEIGHBOUR: 'it returns false'. Refute it at one input. -/
def parseNotesWrong : ChangeSpec := { name := "parseNotes", fn := fun _ => fun
  | [d] => { results := [.lit (.bool false)], args := [d] }
  | _ => none }
def ParseNotesWrongFalsely : Prop := parseNotesRow.holds Try.pinned (OpenSpec.ofChange parseNotesWrong)

/-- 'galleylaw13.ParseBoxes': WHATEVER THE INPUT: true; the input reads as it did. -/
def parseBoxesSpec : ChangeSpec := { name := "parseBoxes", fn := fun _ => fun
  | [d1, d2, d3] => { results := [.lit (.bool true)], args := [d1, d2, d3] }
  | _ => none }
def parseBoxesRow : OpenClaim := { program := "ythpplbkobokghaa", sum := "8b473eae45441ab9663513e989d54d6da0a76a72237d3068918346e7ba9a8662", func := "galley/galleylaw13.ParseBoxes", spec := "parseBoxes", unfollowed := true, recurses := true, apart := false }
def ParseBoxesSaid : Prop := parseBoxesRow.holds Try.pinned (OpenSpec.ofChange parseBoxesSpec)

/-- ITS FALSE NEIGHBOUR: 'it returns false'. Refute it at one input. -/
def parseBoxesWrong : ChangeSpec := { name := "parseBoxes", fn := fun _ => fun
  | [d1, d2, d3] => { results := [.lit (.bool false)], args := [d1, d2, d3] }
  | _ => none }
def ParseBoxesWrongFalsely : Prop := parseBoxesRow.holds Try.pinned (OpenSpec.ofChange parseBoxesWrong)

/-- 'galleylaw13.ParseItems': WHATEVER THE INPUT: true; the input reads as it did. -/
def parseItemsSpec : ChangeSpec := { name := "parseItems", fn := fun _ => fun
  | [d1, d2, d3] => { results := [.lit (.bool true)], args := [d1, d2, d3] }
  | _ => none }
def parseItemsRow : OpenClaim := { program := "ythpplbkobokghaa", sum := "8b473eae45441ab9663513e989d54d6da0a76a72237d3068918346e7ba9a8662", func := "galley/galleylaw13.ParseItems", spec := "parseItems", unfollowed := true, recurses := true, apart := false }
def ParseItemsSaid : Prop := parseItemsRow.holds Try.pinned (OpenSpec.ofChange parseItemsSpec)

/-- ITS FALSE NEIGHBOUR: 'it returns false'. Refute it at one input. -/
def parseItemsWrong : ChangeSpec := { name := "parseItems", fn := fun _ => fun
  | [d1, d2, d3] => { results := [.lit (.bool false)], args := [d1, d2, d3] }
  | _ => none }
def ParseItemsWrongFalsely : Prop := parseItemsRow.holds Try.pinned (OpenSpec.ofChange parseItemsWrong)

/-- 'galleylaw13.ParseBodies': WHATEVER THE INPUT: true; the input reads as it did. -/
def parseBodiesSpec : ChangeSpec := { name := "parseBodies", fn := fun _ => fun
  | [d1, d2] => { results := [.lit (.bool true)], args := [d1, d2] }
  | _ => none }
def parseBodiesRow : OpenClaim := { program := "ythpplbkobokghaa", sum := "8b473eae45441ab9663513e989d54d6da0a76a72237d3068918346e7ba9a8662", func := "galley/galleylaw13.ParseBodies", spec := "parseBodies", unfollowed := true, recurses := true, apart := false }
def ParseBodiesSaid : Prop := parseBodiesRow.holds Try.pinned (OpenSpec.ofChange parseBodiesSpec)

/-- ITS FALSE NEIGHBOUR: 'it returns false'. Refute it at one input. -/
def parseBodiesWrong : ChangeSpec := { name := "parseBodies", fn := fun _ => fun
  | [d1, d2] => { results := [.lit (.bool false)], args := [d1, d2] }
  | _ => none }
def ParseBodiesWrongFalsely : Prop := parseBodiesRow.holds Try.pinned (OpenSpec.ofChange parseBodiesWrong)

/-- 'galleylaw13.ParseClauses': WHATEVER THE INPUT: true; the input reads as it did. -/
def parseClausesSpec : ChangeSpec := { name := "parseClauses", fn := fun _ => fun
  | [d1, d2, d3] => { results := [.lit (.bool true)], args := [d1, d2, d3] }
  | _ => none }
def parseClausesRow : OpenClaim := { program := "ythpplbkobokghaa", sum := "8b473eae45441ab9663513e989d54d6da0a76a72237d3068918346e7ba9a8662", func := "galley/galleylaw13.ParseClauses", spec := "parseClauses", unfollowed := true, recurses := true, apart := false }
def ParseClausesSaid : Prop := parseClausesRow.holds Try.pinned (OpenSpec.ofChange parseClausesSpec)

/-- ITS FALSE NEIGHBOUR: 'it returns false'. Refute it at one input. -/
def parseClausesWrong : ChangeSpec := { name := "parseClauses", fn := fun _ => fun
  | [d1, d2, d3] => { results := [.lit (.bool false)], args := [d1, d2, d3] }
  | _ => none }
def ParseClausesWrongFalsely : Prop := parseClausesRow.holds Try.pinned (OpenSpec.ofChange parseClausesWrong)

/- THE SECOND FORM. 'bulk': how many values and letters a reading holds, each counted each time it is reached (what is shared counts as often as it is met; a slice's spare places count too). A statement '..UptoSaid' is the law's where the arguments, and the package variables that the reading takes, are together of bulk at most 1048576: NARROWER than '..Said'. Prove '..Said' where nothing that the law and all that it calls make is longer than what came in: it says more and counts as full. Else prove '..UptoSaid'. A law counts once. -/
mutual
def uptoBulk {H : Type} : DataW H → Nat
  | .lit (.string bytes) => bytes.length + 1
  | .lit _ => 1
  | .nil => 1
  | .ptr d => uptoBulk d + 1
  | .slice elems spare => uptoBulkAll elems + uptoBulkAll spare + 1
  | .agg parts => uptoBulkAll parts + 1
  | .iface _ d => uptoBulk d + 1
  | .map entries => uptoBulkEntries entries + 1
  | .held _ => 1
def uptoBulkAll {H : Type} : List (DataW H) → Nat
  | [] => 0
  | d :: r => uptoBulk d + uptoBulkAll r
def uptoBulkEntries {H : Type} : List (Lit × DataW H) → Nat
  | [] => 0
  | x :: r => uptoBulkEntry x + uptoBulkEntries r
def uptoBulkEntry {H : Type} : Lit × DataW H → Nat
  | (.string bytes, d) => bytes.length + uptoBulk d + 1
  | (_, d) => uptoBulk d + 1
 end
def uptoSmall : (H : Type) → List (DataW H) → Bool := fun _ ds => decide (uptoBulkAll ds ≤ 1048576)
def OpenSpec.upto (s : _root_.Go.ChangeSpec) : _root_.Go.OpenSpec := { _root_.Go.OpenSpec.ofChange s with cond := some uptoSmall }

/-- 'galleylaw13.ParseLevels', WHERE WHAT IT READS IS OF BULK AT MOST 1048576: true; the input reads as it did. -/
def parseLevelsUptoRow : OpenClaim := { program := "ythpplbkobokghaa", sum := "8b473eae45441ab9663513e989d54d6da0a76a72237d3068918346e7ba9a8662", func := "galley/galleylaw13.ParseLevels", spec := "parseLevels", unfollowed := true, recurses := true, apart := false, narrowed := true }
def ParseLevelsUptoSaid : Prop := parseLevelsUptoRow.holds Try.pinned (OpenSpec.upto parseLevelsSpec)

/-- 'galleylaw13.ParseGroups', WHERE WHAT IT READS IS OF BULK AT MOST 1048576: true; the input reads as it did. -/
def parseGroupsUptoRow : OpenClaim := { program := "ythpplbkobokghaa", sum := "8b473eae45441ab9663513e989d54d6da0a76a72237d3068918346e7ba9a8662", func := "galley/galleylaw13.ParseGroups", spec := "parseGroups", unfollowed := true, recurses := true, apart := false, narrowed := true }
def ParseGroupsUptoSaid : Prop := parseGroupsUptoRow.holds Try.pinned (OpenSpec.upto parseGroupsSpec)

/-- 'galleylaw13.ParseParens', WHERE WHAT IT READS IS OF BULK AT MOST 1048576: true; the input reads as it did. -/
def parseParensUptoRow : OpenClaim := { program := "ythpplbkobokghaa", sum := "8b473eae45441ab9663513e989d54d6da0a76a72237d3068918346e7ba9a8662", func := "galley/galleylaw13.ParseParens", spec := "parseParens", unfollowed := true, recurses := true, apart := false, narrowed := true }
def ParseParensUptoSaid : Prop := parseParensUptoRow.holds Try.pinned (OpenSpec.upto parseParensSpec)

/-- 'galleylaw13.ParseWrong', WHERE WHAT IT READS IS OF BULK AT MOST 1048576: true; the input reads as it did. -/
def parseWrongUptoRow : OpenClaim := { program := "ythpplbkobokghaa", sum := "8b473eae45441ab9663513e989d54d6da0a76a72237d3068918346e7ba9a8662", func := "galley/galleylaw13.ParseWrong", spec := "parseWrong", unfollowed := true, recurses := true, apart := false, narrowed := true }
def ParseWrongUptoSaid : Prop := parseWrongUptoRow.holds Try.pinned (OpenSpec.upto parseWrongSpec)

/-- 'galleylaw13.ParseLits', WHERE WHAT IT READS IS OF BULK AT MOST 1048576: true; the input reads as it did. -/
def parseLitsUptoRow : OpenClaim := { program := "ythpplbkobokghaa", sum := "8b473eae45441ab9663513e989d54d6da0a76a72237d3068918346e7ba9a8662", func := "galley/galleylaw13.ParseLits", spec := "parseLits", unfollowed := true, recurses := true, apart := false, narrowed := true }
def ParseLitsUptoSaid : Prop := parseLitsUptoRow.holds Try.pinned (OpenSpec.upto parseLitsSpec)

/-- 'galleylaw13.ParseNotes', WHERE WHAT IT READS IS OF BULK AT MOST 1048576: true; the input reads as it did. -/
def parseNotesUptoRow : OpenClaim := { program := "ythpplbkobokghaa", sum := "8b473eae45441ab9663513e989d54d6da0a76a72237d3068918346e7ba9a8662", func := "galley/galleylaw13.ParseNotes", spec := "parseNotes", unfollowed := true, recurses := true, apart := false, narrowed := true }
def ParseNotesUptoSaid : Prop := parseNotesUptoRow.holds Try.pinned (OpenSpec.upto parseNotesSpec)

/-- 'galleylaw13.ParseBoxes', WHERE WHAT IT READS IS OF BULK AT MOST 1048576: true; the input reads as it did. -/
def parseBoxesUptoRow : OpenClaim := { program := "ythpplbkobokghaa", sum := "8b473eae45441ab9663513e989d54d6da0a76a72237d3068918346e7ba9a8662", func := "galley/galleylaw13.ParseBoxes", spec := "parseBoxes", unfollowed := true, recurses := true, apart := false, narrowed := true }
def ParseBoxesUptoSaid : Prop := parseBoxesUptoRow.holds Try.pinned (OpenSpec.upto parseBoxesSpec)

/-- 'galleylaw13.ParseItems', WHERE WHAT IT READS IS OF BULK AT MOST 1048576: true; the input reads as it did. -/
def parseItemsUptoRow : OpenClaim := { program := "ythpplbkobokghaa", sum := "8b473eae45441ab9663513e989d54d6da0a76a72237d3068918346e7ba9a8662", func := "galley/galleylaw13.ParseItems", spec := "parseItems", unfollowed := true, recurses := true, apart := false, narrowed := true }
def ParseItemsUptoSaid : Prop := parseItemsUptoRow.holds Try.pinned (OpenSpec.upto parseItemsSpec)

/-- 'galleylaw13.ParseBodies', WHERE WHAT IT READS IS OF BULK AT MOST 1048576: true; the input reads as it did. -/
def parseBodiesUptoRow : OpenClaim := { program := "ythpplbkobokghaa", sum := "8b473eae45441ab9663513e989d54d6da0a76a72237d3068918346e7ba9a8662", func := "galley/galleylaw13.ParseBodies", spec := "parseBodies", unfollowed := true, recurses := true, apart := false, narrowed := true }
def ParseBodiesUptoSaid : Prop := parseBodiesUptoRow.holds Try.pinned (OpenSpec.upto parseBodiesSpec)

/-- 'galleylaw13.ParseClauses', WHERE WHAT IT READS IS OF BULK AT MOST 1048576: true; the input reads as it did. -/
def parseClausesUptoRow : OpenClaim := { program := "ythpplbkobokghaa", sum := "8b473eae45441ab9663513e989d54d6da0a76a72237d3068918346e7ba9a8662", func := "galley/galleylaw13.ParseClauses", spec := "parseClauses", unfollowed := true, recurses := true, apart := false, narrowed := true }
def ParseClausesUptoSaid : Prop := parseClausesUptoRow.holds Try.pinned (OpenSpec.upto parseClausesSpec)

end Rows
end Go.Proofs.Ythpplbkobokghaa
