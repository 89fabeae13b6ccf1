/-
  No cell of these rows narrows 'for every input' (looked for: loops, veiled, ifaces, maps, wideKeys, modest, calm, conditions, laid).
  DERIVED. THE GIVEN ROWS OF THIS SEAT. 7 by the template 'for every input the law returns true; each argument reads behind the call as it read before'; 0 by the template 'total and deterministic' (their statements: YtokcjgjgojlhbaaTotals.lean).
  GIVEN WITH THE SEED: the statements are not yours to turn. If you find one false, say at which input.
  Laid BY PROGRAM, IN A SANDBOX (cutbox-rows.mjs): the forced cells as the released guide's own fill.sh prints them over the translation b6f4fafe3fe817b8… (all of the seat's roots in one cut). By AI agents, Wed Nov 11 2026. No macro, syntax, notation, axiom, sorry.
-/
import Derived.Test.YtokcjgjgojlhbaaChecked
import GoSem.Claim
import GoSem.ClaimJoined
import GoSem.ClaimMapViews
import Derived.JoinedTies
import Derived.KernelRfl
namespace Go.Proofs.Ytokcjgjgojlhbaa
/- THE CELL 'sum', in the pinned program and in every row, IS THE sha256 OF THE DUMP (.gsa) THAT YtokcjgjgojlhbaaProg.lean LOADS. Nothing in Lean hashes anything: it is a label: what it is worth is what the hold of that sum in a sandbox is worth. -/
noncomputable def Try.pinned : Pinned := { name := "ytokcjgjgojlhbaa", sum := "b6f4fafe3fe817b8f4ad6bfc7190bf10b61d3cc6619e50794eda32e415bc2067", checked := Try.checked }
namespace Rows
def none {H : Type} : Left H := { results := [], args := [] }

/-- 'galleylaw6.ScanAsks': WHATEVER THE INPUT: true; the input reads as it did. -/
def scanAsksSpec : ChangeSpec := { name := "scanAsks", fn := fun _ => fun
  | [d1, d2] => { results := [.lit (.bool true)], args := [d1, d2] }
  | _ => none }
def scanAsksRow : OpenClaim := { program := "ytokcjgjgojlhbaa", sum := "b6f4fafe3fe817b8f4ad6bfc7190bf10b61d3cc6619e50794eda32e415bc2067", func := "galley/galleylaw6.ScanAsks", spec := "scanAsks", apart := false }
def ScanAsksSaid : Prop := scanAsksRow.holds Try.pinned (OpenSpec.ofChange scanAsksSpec)

/-- ITS FALSE NEIGHBOUR: 'it returns false'. Refute it at one input. -/
def scanAsksWrong : ChangeSpec := { name := "scanAsks", fn := fun _ => fun
  | [d1, d2] => { results := [.lit (.bool false)], args := [d1, d2] }
  | _ => none }
def ScanAsksWrongFalsely : Prop := scanAsksRow.holds Try.pinned (OpenSpec.ofChange scanAsksWrong)

/-- 'galleylaw6.ScanWhole': WHATEVER THE INPUT: true; the input reads as it did. -/
def scanWholeSpec : ChangeSpec := { name := "scanWhole", fn := fun _ => fun
  | [d] => { results := [.lit (.bool true)], args := [d] }
  | _ => none }
def scanWholeRow : OpenClaim := { program := "ytokcjgjgojlhbaa", sum := "b6f4fafe3fe817b8f4ad6bfc7190bf10b61d3cc6619e50794eda32e415bc2067", func := "galley/galleylaw6.ScanWhole", spec := "scanWhole", apart := false }
def ScanWholeSaid : Prop := scanWholeRow.holds Try.pinned (OpenSpec.ofChange scanWholeSpec)

/-- ITS FALSE NEIGHBOUR: 'it returns false'. Refute it at one input. -/
def scanWholeWrong : ChangeSpec := { name := "scanWhole", fn := fun _ => fun
  | [d] => { results := [.lit (.bool false)], args := [d] }
  | _ => none }
def ScanWholeWrongFalsely : Prop := scanWholeRow.holds Try.pinned (OpenSpec.ofChange scanWholeWrong)

/-- 'galleylaw6.ScanBlanks': WHATEVER THE INPUT: true; the input reads as it did. -/
def scanBlanksSpec : ChangeSpec := { name := "scanBlanks", fn := fun _ => fun
  | [d] => { results := [.lit (.bool true)], args := [d] }
  | _ => none }
def scanBlanksRow : OpenClaim := { program := "ytokcjgjgojlhbaa", sum := "b6f4fafe3fe817b8f4ad6bfc7190bf10b61d3cc6619e50794eda32e415bc2067", func := "galley/galleylaw6.ScanBlanks", spec := "scanBlanks", apart := false }
def ScanBlanksSaid : Prop := scanBlanksRow.holds Try.pinned (OpenSpec.ofChange scanBlanksSpec)

/-- ITS FALSE NEIGHBOUR: 'it returns false'. Refute it at one input. -/
def scanBlanksWrong : ChangeSpec := { name := "scanBlanks", fn := fun _ => fun
  | [d] => { results := [.lit (.bool false)], args := [d] }
  | _ => none }
def ScanBlanksWrongFalsely : Prop := scanBlanksRow.holds Try.pinned (OpenSpec.ofChange scanBlanksWrong)

/-- 'galleylaw6.ScanKinds': WHATEVER THE INPUT: true; the input reads as it did. -/
def scanKindsSpec : ChangeSpec := { name := "scanKinds", fn := fun _ => fun
  | [d1, d2] => { results := [.lit (.bool true)], args := [d1, d2] }
  | _ => none }
def scanKindsRow : OpenClaim := { program := "ytokcjgjgojlhbaa", sum := "b6f4fafe3fe817b8f4ad6bfc7190bf10b61d3cc6619e50794eda32e415bc2067", func := "galley/galleylaw6.ScanKinds", spec := "scanKinds", apart := false }
def ScanKindsSaid : Prop := scanKindsRow.holds Try.pinned (OpenSpec.ofChange scanKindsSpec)

/-- ITS FALSE NEIGHBOUR: 'it returns false'. Refute it at one input. -/
def scanKindsWrong : ChangeSpec := { name := "scanKinds", fn := fun _ => fun
  | [d1, d2] => { results := [.lit (.bool false)], args := [d1, d2] }
  | _ => none }
def ScanKindsWrongFalsely : Prop := scanKindsRow.holds Try.pinned (OpenSpec.ofChange scanKindsWrong)

/-- 'galleylaw6.ScanWrong': WHATEVER THE INPUT: true; the input reads as it did. -/
def scanWrongSpec : ChangeSpec := { name := "scanWrong", fn := fun _ => fun
  | [d1, d2] => { results := [.lit (.bool true)], args := [d1, d2] }
  | _ => none }
def scanWrongRow : OpenClaim := { program := "ytokcjgjgojlhbaa", sum := "b6f4fafe3fe817b8f4ad6bfc7190bf10b61d3cc6619e50794eda32e415bc2067", func := "galley/galleylaw6.ScanWrong", spec := "scanWrong", apart := false }
def ScanWrongSaid : Prop := scanWrongRow.holds Try.pinned (OpenSpec.ofChange scanWrongSpec)

/-- ITS FALSE NEIGHBOUR: 'it returns false'. Refute it at one input. -/
def scanWrongWrong : ChangeSpec := { name := "scanWrong", fn := fun _ => fun
  | [d1, d2] => { results := [.lit (.bool false)], args := [d1, d2] }
  | _ => none }
def ScanWrongWrongFalsely : Prop := scanWrongRow.holds Try.pinned (OpenSpec.ofChange scanWrongWrong)

/-- 'galleylaw6.ScanJoins': WHATEVER THE INPUT: true; the input reads as it did. -/
def scanJoinsSpec : ChangeSpec := { name := "scanJoins", fn := fun _ => fun
  | [d1, d2] => { results := [.lit (.bool true)], args := [d1, d2] }
  | _ => none }
def scanJoinsRow : OpenClaim := { program := "ytokcjgjgojlhbaa", sum := "b6f4fafe3fe817b8f4ad6bfc7190bf10b61d3cc6619e50794eda32e415bc2067", func := "galley/galleylaw6.ScanJoins", spec := "scanJoins", apart := false }
def ScanJoinsSaid : Prop := scanJoinsRow.holds Try.pinned (OpenSpec.ofChange scanJoinsSpec)

/-- ITS FALSE NEIGHBOUR: 'it returns false'. Refute it at one input. -/
def scanJoinsWrong : ChangeSpec := { name := "scanJoins", fn := fun _ => fun
  | [d1, d2] => { results := [.lit (.bool false)], args := [d1, d2] }
  | _ => none }
def ScanJoinsWrongFalsely : Prop := scanJoinsRow.holds Try.pinned (OpenSpec.ofChange scanJoinsWrong)

/-- 'galleylaw6.ScanEscapes': WHATEVER THE INPUT: true; the input reads as it did. -/
def scanEscapesSpec : ChangeSpec := { name := "scanEscapes", fn := fun _ => fun
  | [d1, d2] => { results := [.lit (.bool true)], args := [d1, d2] }
  | _ => none }
def scanEscapesRow : OpenClaim := { program := "ytokcjgjgojlhbaa", sum := "b6f4fafe3fe817b8f4ad6bfc7190bf10b61d3cc6619e50794eda32e415bc2067", func := "galley/galleylaw6.ScanEscapes", spec := "scanEscapes", apart := false }
def ScanEscapesSaid : Prop := scanEscapesRow.holds Try.pinned (OpenSpec.ofChange scanEscapesSpec)

/-- ITS FALSE NEIGHBOUR: 'it returns false'. Refute it at one input. -/
def scanEscapesWrong : ChangeSpec := { name := "scanEscapes", fn := fun _ => fun
  | [d1, d2] => { results := [.lit (.bool false)], args := [d1, d2] }
  | _ => none }
def ScanEscapesWrongFalsely : Prop := scanEscapesRow.holds Try.pinned (OpenSpec.ofChange scanEscapesWrong)

/- THE SECOND FORM. 'bulk': how many values and letters a reading holds, each counted each time it is reached (what is shared counts as often as it is met; a slice's spare places count too). A statement '..UptoSaid' is the law's where the arguments, and the package variables that the reading takes, are together of bulk at most 1048576: NARROWER than '..Said'. Prove '..Said' where nothing that the law and all that it calls make is longer than what came in: it says more and counts as full. Else prove '..UptoSaid'. A law counts once. -/
mutual
def uptoBulk {H : Type} : DataW H → Nat
  | .lit (.string bytes) => bytes.length + 1
  | .lit _ => 1
  | .nil => 1
  | .ptr d => uptoBulk d + 1
  | .slice elems spare => uptoBulkAll elems + uptoBulkAll spare + 1
  | .agg parts => uptoBulkAll parts + 1
  | .iface _ d => uptoBulk d + 1
  | .map entries => uptoBulkEntries entries + 1
  | .held _ => 1
def uptoBulkAll {H : Type} : List (DataW H) → Nat
  | [] => 0
  | d :: r => uptoBulk d + uptoBulkAll r
def uptoBulkEntries {H : Type} : List (Lit × DataW H) → Nat
  | [] => 0
  | x :: r => uptoBulkEntry x + uptoBulkEntries r
def uptoBulkEntry {H : Type} : Lit × DataW H → Nat
  | (.string bytes, d) => bytes.length + uptoBulk d + 1
  | (_, d) => uptoBulk d + 1
 end
def uptoSmall : (H : Type) → List (DataW H) → Bool := fun _ ds => decide (uptoBulkAll ds ≤ 1048576)
def OpenSpec.upto (s : _root_.Go.ChangeSpec) : _root_.Go.OpenSpec := { _root_.Go.OpenSpec.ofChange s with cond := some uptoSmall }

/-- 'galleylaw6.ScanAsks', WHERE WHAT IT READS IS OF BULK AT MOST 1048576: true; the input reads as it did. -/
def scanAsksUptoRow : OpenClaim := { program := "ytokcjgjgojlhbaa", sum := "b6f4fafe3fe817b8f4ad6bfc7190bf10b61d3cc6619e50794eda32e415bc2067", func := "galley/galleylaw6.ScanAsks", spec := "scanAsks", apart := false, narrowed := true }
def ScanAsksUptoSaid : Prop := scanAsksUptoRow.holds Try.pinned (OpenSpec.upto scanAsksSpec)

/-- 'galleylaw6.ScanWhole', WHERE WHAT IT READS IS OF BULK AT MOST 1048576: true; the input reads as it did. -/
def scanWholeUptoRow : OpenClaim := { program := "ytokcjgjgojlhbaa", sum := "b6f4fafe3fe817b8f4ad6bfc7190bf10b61d3cc6619e50794eda32e415bc2067", func := "galley/galleylaw6.ScanWhole", spec := "scanWhole", apart := false, narrowed := true }
def ScanWholeUptoSaid : Prop := scanWholeUptoRow.holds Try.pinned (OpenSpec.upto scanWholeSpec)

/-- 'galleylaw6.ScanBlanks', WHERE WHAT IT READS IS OF BULK AT MOST 1048576: true; the input reads as it did. -/
def scanBlanksUptoRow : OpenClaim := { program := "ytokcjgjgojlhbaa", sum := "b6f4fafe3fe817b8f4ad6bfc7190bf10b61d3cc6619e50794eda32e415bc2067", func := "galley/galleylaw6.ScanBlanks", spec := "scanBlanks", apart := false, narrowed := true }
def ScanBlanksUptoSaid : Prop := scanBlanksUptoRow.holds Try.pinned (OpenSpec.upto scanBlanksSpec)

/-- 'galleylaw6.ScanKinds', WHERE WHAT IT READS IS OF BULK AT MOST 1048576: true; the input reads as it did. -/
def scanKindsUptoRow : OpenClaim := { program := "ytokcjgjgojlhbaa", sum := "b6f4fafe3fe817b8f4ad6bfc7190bf10b61d3cc6619e50794eda32e415bc2067", func := "galley/galleylaw6.ScanKinds", spec := "scanKinds", apart := false, narrowed := true }
def ScanKindsUptoSaid : Prop := scanKindsUptoRow.holds Try.pinned (OpenSpec.upto scanKindsSpec)

/-- 'galleylaw6.ScanWrong', WHERE WHAT IT READS IS OF BULK AT MOST 1048576: true; the input reads as it did. -/
def scanWrongUptoRow : OpenClaim := { program := "ytokcjgjgojlhbaa", sum := "b6f4fafe3fe817b8f4ad6bfc7190bf10b61d3cc6619e50794eda32e415bc2067", func := "galley/galleylaw6.ScanWrong", spec := "scanWrong", apart := false, narrowed := true }
def ScanWrongUptoSaid : Prop := scanWrongUptoRow.holds Try.pinned (OpenSpec.upto scanWrongSpec)

/-- 'galleylaw6.ScanJoins', WHERE WHAT IT READS IS OF BULK AT MOST 1048576: true; the input reads as it did. -/
def scanJoinsUptoRow : OpenClaim := { program := "ytokcjgjgojlhbaa", sum := "b6f4fafe3fe817b8f4ad6bfc7190bf10b61d3cc6619e50794eda32e415bc2067", func := "galley/galleylaw6.ScanJoins", spec := "scanJoins", apart := false, narrowed := true }
def ScanJoinsUptoSaid : Prop := scanJoinsUptoRow.holds Try.pinned (OpenSpec.upto scanJoinsSpec)

/-- 'galleylaw6.ScanEscapes', WHERE WHAT IT READS IS OF BULK AT MOST 1048576: true; the input reads as it did. -/
def scanEscapesUptoRow : OpenClaim := { program := "ytokcjgjgojlhbaa", sum := "b6f4fafe3fe817b8f4ad6bfc7190bf10b61d3cc6619e50794eda32e415bc2067", func := "galley/galleylaw6.ScanEscapes", spec := "scanEscapes", apart := false, narrowed := true }
def ScanEscapesUptoSaid : Prop := scanEscapesUptoRow.holds Try.pinned (OpenSpec.upto scanEscapesSpec)

end Rows
end Go.Proofs.Ytokcjgjgojlhbaa
