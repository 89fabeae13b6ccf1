/-
  No cell of these rows narrows 'for every input' (looked for: loops, veiled, ifaces, maps, wideKeys, modest, calm, conditions, laid).
  DERIVED. THE GIVEN ROWS OF THIS SEAT. 9 by the template 'for every input the law returns true; each argument reads behind the call as it read before'; 0 by the template 'total and deterministic' (their statements: YtfkefelgjbfkjaaTotals.lean).
  GIVEN WITH THE SEED: the statements are not yours to turn. If you find one false, say at which input.
  Laid BY PROGRAM, IN A SANDBOX (cutbox-rows.mjs): the forced cells as the released guide's own fill.sh prints them over the translation d915e92a15b15511… (all of the seat's roots in one cut). By AI agents, Wed Nov 11 2026. No macro, syntax, notation, axiom, sorry.
-/
import Derived.Test.YtfkefelgjbfkjaaChecked
import GoSem.Claim
import GoSem.ClaimJoined
import GoSem.ClaimMapViews
import Derived.JoinedTies
import Derived.KernelRfl
namespace Go.Proofs.Ytfkefelgjbfkjaa
/- THE CELL 'sum', in the pinned program and in every row, IS THE sha256 OF THE DUMP (.gsa) THAT YtfkefelgjbfkjaaProg.lean LOADS. Nothing in Lean hashes anything: it is a label: what it is worth is what the hold of that sum in a sandbox is worth. -/
noncomputable def Try.pinned : Pinned := { name := "ytfkefelgjbfkjaa", sum := "d915e92a15b15511cb9bbfb8f46ecf0a7531783170e4847a2ce5a9d5a42c5ff3", checked := Try.checked }
namespace Rows
def none {H : Type} : Left H := { results := [], args := [] }

/-- 'galleylaw1.UtfReads': WHATEVER THE INPUT: true; the input reads as it did. -/
def utfReadsSpec : ChangeSpec := { name := "utfReads", fn := fun _ => fun
  | [d1, d2, d3] => { results := [.lit (.bool true)], args := [d1, d2, d3] }
  | _ => none }
def utfReadsRow : OpenClaim := { program := "ytfkefelgjbfkjaa", sum := "d915e92a15b15511cb9bbfb8f46ecf0a7531783170e4847a2ce5a9d5a42c5ff3", func := "galley/galleylaw1.UtfReads", spec := "utfReads", apart := false }
def UtfReadsSaid : Prop := utfReadsRow.holds Try.pinned (OpenSpec.ofChange utfReadsSpec)

/-- ITS FALSE NEIGHBOUR: 'it returns false'. Refute it at one input. -/
def utfReadsWrong : ChangeSpec := { name := "utfReads", fn := fun _ => fun
  | [d1, d2, d3] => { results := [.lit (.bool false)], args := [d1, d2, d3] }
  | _ => none }
def UtfReadsWrongFalsely : Prop := utfReadsRow.holds Try.pinned (OpenSpec.ofChange utfReadsWrong)

/-- 'galleylaw1.UtfBack': WHATEVER THE INPUT: true; the input reads as it did. -/
def utfBackSpec : ChangeSpec := { name := "utfBack", fn := fun _ => fun
  | [d] => { results := [.lit (.bool true)], args := [d] }
  | _ => none }
def utfBackRow : OpenClaim := { program := "ytfkefelgjbfkjaa", sum := "d915e92a15b15511cb9bbfb8f46ecf0a7531783170e4847a2ce5a9d5a42c5ff3", func := "galley/galleylaw1.UtfBack", spec := "utfBack", apart := false }
def UtfBackSaid : Prop := utfBackRow.holds Try.pinned (OpenSpec.ofChange utfBackSpec)

/-- ITS FALSE NEIGHBOUR: 'it returns false'. Refute it at one input. -/
def utfBackWrong : ChangeSpec := { name := "utfBack", fn := fun _ => fun
  | [d] => { results := [.lit (.bool false)], args := [d] }
  | _ => none }
def UtfBackWrongFalsely : Prop := utfBackRow.holds Try.pinned (OpenSpec.ofChange utfBackWrong)

/-- 'galleylaw1.UtfParts': WHATEVER THE INPUT: true; the input reads as it did. -/
def utfPartsSpec : ChangeSpec := { name := "utfParts", fn := fun _ => fun
  | [d1, d2] => { results := [.lit (.bool true)], args := [d1, d2] }
  | _ => none }
def utfPartsRow : OpenClaim := { program := "ytfkefelgjbfkjaa", sum := "d915e92a15b15511cb9bbfb8f46ecf0a7531783170e4847a2ce5a9d5a42c5ff3", func := "galley/galleylaw1.UtfParts", spec := "utfParts", apart := false }
def UtfPartsSaid : Prop := utfPartsRow.holds Try.pinned (OpenSpec.ofChange utfPartsSpec)

/-- ITS FALSE NEIGHBOUR: 'it returns false'. Refute it at one input. -/
def utfPartsWrong : ChangeSpec := { name := "utfParts", fn := fun _ => fun
  | [d1, d2] => { results := [.lit (.bool false)], args := [d1, d2] }
  | _ => none }
def UtfPartsWrongFalsely : Prop := utfPartsRow.holds Try.pinned (OpenSpec.ofChange utfPartsWrong)

/-- 'galleylaw1.UtfEnds': WHATEVER THE INPUT: true; the input reads as it did. -/
def utfEndsSpec : ChangeSpec := { name := "utfEnds", fn := fun _ => fun
  | [d1, d2] => { results := [.lit (.bool true)], args := [d1, d2] }
  | _ => none }
def utfEndsRow : OpenClaim := { program := "ytfkefelgjbfkjaa", sum := "d915e92a15b15511cb9bbfb8f46ecf0a7531783170e4847a2ce5a9d5a42c5ff3", func := "galley/galleylaw1.UtfEnds", spec := "utfEnds", apart := false }
def UtfEndsSaid : Prop := utfEndsRow.holds Try.pinned (OpenSpec.ofChange utfEndsSpec)

/-- ITS FALSE NEIGHBOUR: 'it returns false'. Refute it at one input. -/
def utfEndsWrong : ChangeSpec := { name := "utfEnds", fn := fun _ => fun
  | [d1, d2] => { results := [.lit (.bool false)], args := [d1, d2] }
  | _ => none }
def UtfEndsWrongFalsely : Prop := utfEndsRow.holds Try.pinned (OpenSpec.ofChange utfEndsWrong)

/-- 'galleylaw1.UtfTurned': WHATEVER THE INPUT: true; the input reads as it did. -/
def utfTurnedSpec : ChangeSpec := { name := "utfTurned", fn := fun _ => fun
  | [d1, d2] => { results := [.lit (.bool true)], args := [d1, d2] }
  | _ => none }
def utfTurnedRow : OpenClaim := { program := "ytfkefelgjbfkjaa", sum := "d915e92a15b15511cb9bbfb8f46ecf0a7531783170e4847a2ce5a9d5a42c5ff3", func := "galley/galleylaw1.UtfTurned", spec := "utfTurned", apart := false }
def UtfTurnedSaid : Prop := utfTurnedRow.holds Try.pinned (OpenSpec.ofChange utfTurnedSpec)

/-- ITS FALSE NEIGHBOUR: 'it returns false'. Refute it at one input. -/
def utfTurnedWrong : ChangeSpec := { name := "utfTurned", fn := fun _ => fun
  | [d1, d2] => { results := [.lit (.bool false)], args := [d1, d2] }
  | _ => none }
def UtfTurnedWrongFalsely : Prop := utfTurnedRow.holds Try.pinned (OpenSpec.ofChange utfTurnedWrong)

/-- 'galleylaw12.CellAsks': WHATEVER THE INPUT: true; the input reads as it did. -/
def cellAsksSpec : ChangeSpec := { name := "cellAsks", fn := fun _ => fun
  | [d1, d2, d3] => { results := [.lit (.bool true)], args := [d1, d2, d3] }
  | _ => none }
def cellAsksRow : OpenClaim := { program := "ytfkefelgjbfkjaa", sum := "d915e92a15b15511cb9bbfb8f46ecf0a7531783170e4847a2ce5a9d5a42c5ff3", func := "galley/galleylaw12.CellAsks", spec := "cellAsks", apart := false }
def CellAsksSaid : Prop := cellAsksRow.holds Try.pinned (OpenSpec.ofChange cellAsksSpec)

/-- ITS FALSE NEIGHBOUR: 'it returns false'. Refute it at one input. -/
def cellAsksWrong : ChangeSpec := { name := "cellAsks", fn := fun _ => fun
  | [d1, d2, d3] => { results := [.lit (.bool false)], args := [d1, d2, d3] }
  | _ => none }
def CellAsksWrongFalsely : Prop := cellAsksRow.holds Try.pinned (OpenSpec.ofChange cellAsksWrong)

/-- 'galleylaw12.CellJoins': WHATEVER THE INPUT: true; the input reads as it did. -/
def cellJoinsSpec : ChangeSpec := { name := "cellJoins", fn := fun _ => fun
  | [d1, d2, d3] => { results := [.lit (.bool true)], args := [d1, d2, d3] }
  | _ => none }
def cellJoinsRow : OpenClaim := { program := "ytfkefelgjbfkjaa", sum := "d915e92a15b15511cb9bbfb8f46ecf0a7531783170e4847a2ce5a9d5a42c5ff3", func := "galley/galleylaw12.CellJoins", spec := "cellJoins", apart := false }
def CellJoinsSaid : Prop := cellJoinsRow.holds Try.pinned (OpenSpec.ofChange cellJoinsSpec)

/-- ITS FALSE NEIGHBOUR: 'it returns false'. Refute it at one input. -/
def cellJoinsWrong : ChangeSpec := { name := "cellJoins", fn := fun _ => fun
  | [d1, d2, d3] => { results := [.lit (.bool false)], args := [d1, d2, d3] }
  | _ => none }
def CellJoinsWrongFalsely : Prop := cellJoinsRow.holds Try.pinned (OpenSpec.ofChange cellJoinsWrong)

/-- 'galleylaw12.CellIndents': WHATEVER THE INPUT: true; the input reads as it did. -/
def cellIndentsSpec : ChangeSpec := { name := "cellIndents", fn := fun _ => fun
  | [d] => { results := [.lit (.bool true)], args := [d] }
  | _ => none }
def cellIndentsRow : OpenClaim := { program := "ytfkefelgjbfkjaa", sum := "d915e92a15b15511cb9bbfb8f46ecf0a7531783170e4847a2ce5a9d5a42c5ff3", func := "galley/galleylaw12.CellIndents", spec := "cellIndents", apart := false }
def CellIndentsSaid : Prop := cellIndentsRow.holds Try.pinned (OpenSpec.ofChange cellIndentsSpec)

/-- ITS FALSE NEIGHBOUR: 'it returns false'. Refute it at one input. -/
def cellIndentsWrong : ChangeSpec := { name := "cellIndents", fn := fun _ => fun
  | [d] => { results := [.lit (.bool false)], args := [d] }
  | _ => none }
def CellIndentsWrongFalsely : Prop := cellIndentsRow.holds Try.pinned (OpenSpec.ofChange cellIndentsWrong)

/-- 'galleylaw12.CellNotes': WHATEVER THE INPUT: true; the input reads as it did. -/
def cellNotesSpec : ChangeSpec := { name := "cellNotes", fn := fun _ => fun
  | [d] => { results := [.lit (.bool true)], args := [d] }
  | _ => none }
def cellNotesRow : OpenClaim := { program := "ytfkefelgjbfkjaa", sum := "d915e92a15b15511cb9bbfb8f46ecf0a7531783170e4847a2ce5a9d5a42c5ff3", func := "galley/galleylaw12.CellNotes", spec := "cellNotes", apart := false }
def CellNotesSaid : Prop := cellNotesRow.holds Try.pinned (OpenSpec.ofChange cellNotesSpec)

/-- ITS FALSE NEIGHBOUR: 'it returns false'. Refute it at one input. -/
def cellNotesWrong : ChangeSpec := { name := "cellNotes", fn := fun _ => fun
  | [d] => { results := [.lit (.bool false)], args := [d] }
  | _ => none }
def CellNotesWrongFalsely : Prop := cellNotesRow.holds Try.pinned (OpenSpec.ofChange cellNotesWrong)

/- THE SECOND FORM. 'bulk': how many values and letters a reading holds, each counted each time it is reached (what is shared counts as often as it is met; a slice's spare places count too). A statement '..UptoSaid' is the law's where the arguments, and the package variables that the reading takes, are together of bulk at most 1048576: NARROWER than '..Said'. Prove '..Said' where nothing that the law and all that it calls make is longer than what came in: it says more and counts as full. Else prove '..UptoSaid'. A law counts once. -/
mutual
def uptoBulk {H : Type} : DataW H → Nat
  | .lit (.string bytes) => bytes.length + 1
  | .lit _ => 1
  | .nil => 1
  | .ptr d => uptoBulk d + 1
  | .slice elems spare => uptoBulkAll elems + uptoBulkAll spare + 1
  | .agg parts => uptoBulkAll parts + 1
  | .iface _ d => uptoBulk d + 1
  | .map entries => uptoBulkEntries entries + 1
  | .held _ => 1
def uptoBulkAll {H : Type} : List (DataW H) → Nat
  | [] => 0
  | d :: r => uptoBulk d + uptoBulkAll r
def uptoBulkEntries {H : Type} : List (Lit × DataW H) → Nat
  | [] => 0
  | x :: r => uptoBulkEntry x + uptoBulkEntries r
def uptoBulkEntry {H : Type} : Lit × DataW H → Nat
  | (.string bytes, d) => bytes.length + uptoBulk d + 1
  | (_, d) => uptoBulk d + 1
 end
def uptoSmall : (H : Type) → List (DataW H) → Bool := fun _ ds => decide (uptoBulkAll ds ≤ 1048576)
def OpenSpec.upto (s : _root_.Go.ChangeSpec) : _root_.Go.OpenSpec := { _root_.Go.OpenSpec.ofChange s with cond := some uptoSmall }

/-- 'galleylaw1.UtfReads', WHERE WHAT IT READS IS OF BULK AT MOST 1048576: true; the input reads as it did. -/
def utfReadsUptoRow : OpenClaim := { program := "ytfkefelgjbfkjaa", sum := "d915e92a15b15511cb9bbfb8f46ecf0a7531783170e4847a2ce5a9d5a42c5ff3", func := "galley/galleylaw1.UtfReads", spec := "utfReads", apart := false, narrowed := true }
def UtfReadsUptoSaid : Prop := utfReadsUptoRow.holds Try.pinned (OpenSpec.upto utfReadsSpec)

/-- 'galleylaw1.UtfBack', WHERE WHAT IT READS IS OF BULK AT MOST 1048576: true; the input reads as it did. -/
def utfBackUptoRow : OpenClaim := { program := "ytfkefelgjbfkjaa", sum := "d915e92a15b15511cb9bbfb8f46ecf0a7531783170e4847a2ce5a9d5a42c5ff3", func := "galley/galleylaw1.UtfBack", spec := "utfBack", apart := false, narrowed := true }
def UtfBackUptoSaid : Prop := utfBackUptoRow.holds Try.pinned (OpenSpec.upto utfBackSpec)

/-- 'galleylaw1.UtfParts', WHERE WHAT IT READS IS OF BULK AT MOST 1048576: true; the input reads as it did. -/
def utfPartsUptoRow : OpenClaim := { program := "ytfkefelgjbfkjaa", sum := "d915e92a15b15511cb9bbfb8f46ecf0a7531783170e4847a2ce5a9d5a42c5ff3", func := "galley/galleylaw1.UtfParts", spec := "utfParts", apart := false, narrowed := true }
def UtfPartsUptoSaid : Prop := utfPartsUptoRow.holds Try.pinned (OpenSpec.upto utfPartsSpec)

/-- 'galleylaw1.UtfEnds', WHERE WHAT IT READS IS OF BULK AT MOST 1048576: true; the input reads as it did. -/
def utfEndsUptoRow : OpenClaim := { program := "ytfkefelgjbfkjaa", sum := "d915e92a15b15511cb9bbfb8f46ecf0a7531783170e4847a2ce5a9d5a42c5ff3", func := "galley/galleylaw1.UtfEnds", spec := "utfEnds", apart := false, narrowed := true }
def UtfEndsUptoSaid : Prop := utfEndsUptoRow.holds Try.pinned (OpenSpec.upto utfEndsSpec)

/-- 'galleylaw1.UtfTurned', WHERE WHAT IT READS IS OF BULK AT MOST 1048576: true; the input reads as it did. -/
def utfTurnedUptoRow : OpenClaim := { program := "ytfkefelgjbfkjaa", sum := "d915e92a15b15511cb9bbfb8f46ecf0a7531783170e4847a2ce5a9d5a42c5ff3", func := "galley/galleylaw1.UtfTurned", spec := "utfTurned", apart := false, narrowed := true }
def UtfTurnedUptoSaid : Prop := utfTurnedUptoRow.holds Try.pinned (OpenSpec.upto utfTurnedSpec)

/-- 'galleylaw12.CellAsks', WHERE WHAT IT READS IS OF BULK AT MOST 1048576: true; the input reads as it did. -/
def cellAsksUptoRow : OpenClaim := { program := "ytfkefelgjbfkjaa", sum := "d915e92a15b15511cb9bbfb8f46ecf0a7531783170e4847a2ce5a9d5a42c5ff3", func := "galley/galleylaw12.CellAsks", spec := "cellAsks", apart := false, narrowed := true }
def CellAsksUptoSaid : Prop := cellAsksUptoRow.holds Try.pinned (OpenSpec.upto cellAsksSpec)

/-- 'galleylaw12.CellJoins', WHERE WHAT IT READS IS OF BULK AT MOST 1048576: true; the input reads as it did. -/
def cellJoinsUptoRow : OpenClaim := { program := "ytfkefelgjbfkjaa", sum := "d915e92a15b15511cb9bbfb8f46ecf0a7531783170e4847a2ce5a9d5a42c5ff3", func := "galley/galleylaw12.CellJoins", spec := "cellJoins", apart := false, narrowed := true }
def CellJoinsUptoSaid : Prop := cellJoinsUptoRow.holds Try.pinned (OpenSpec.upto cellJoinsSpec)

/-- 'galleylaw12.CellIndents', WHERE WHAT IT READS IS OF BULK AT MOST 1048576: true; the input reads as it did. -/
def cellIndentsUptoRow : OpenClaim := { program := "ytfkefelgjbfkjaa", sum := "d915e92a15b15511cb9bbfb8f46ecf0a7531783170e4847a2ce5a9d5a42c5ff3", func := "galley/galleylaw12.CellIndents", spec := "cellIndents", apart := false, narrowed := true }
def CellIndentsUptoSaid : Prop := cellIndentsUptoRow.holds Try.pinned (OpenSpec.upto cellIndentsSpec)

/-- 'galleylaw12.CellNotes', WHERE WHAT IT READS IS OF BULK AT MOST 1048576: true; the input reads as it did. -/
def cellNotesUptoRow : OpenClaim := { program := "ytfkefelgjbfkjaa", sum := "d915e92a15b15511cb9bbfb8f46ecf0a7531783170e4847a2ce5a9d5a42c5ff3", func := "galley/galleylaw12.CellNotes", spec := "cellNotes", apart := false, narrowed := true }
def CellNotesUptoSaid : Prop := cellNotesUptoRow.holds Try.pinned (OpenSpec.upto cellNotesSpec)

end Rows
end Go.Proofs.Ytfkefelgjbfkjaa
