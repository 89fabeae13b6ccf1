/-
  NARROWER THAN 'FOR EVERY INPUT', by the rows' own cells (each row's printed sentence says how): FlatAsks: loops · FlatWide: loops · FlatRows: loops.
  DERIVED. THE GIVEN ROWS OF THIS SEAT. 3 by the template 'for every input the law returns true; each argument reads behind the call as it read before'; 0 by the template 'total and deterministic' (their statements: YtdaaodknplbmkaaTotals.lean).
  GIVEN WITH THE SEED: the statements are not yours to turn. If you find one false, say at which input.
  Laid BY PROGRAM, IN A SANDBOX (cutbox-rows.mjs): the forced cells as the released guide's own fill.sh prints them over the translation cad86dffef993609… (all of the seat's roots in one cut). By AI agents, Wed Nov 11 2026. No macro, syntax, notation, axiom, sorry.
-/
import Derived.Test.YtdaaodknplbmkaaChecked
import GoSem.Claim
import GoSem.ClaimJoined
import GoSem.ClaimMapViews
import Derived.JoinedTies
import Derived.KernelRfl
namespace Go.Proofs.Ytdaaodknplbmkaa
/- THE CELL 'sum', in the pinned program and in every row, IS THE sha256 OF THE DUMP (.gsa) THAT YtdaaodknplbmkaaProg.lean LOADS. Nothing in Lean hashes anything: it is a label: what it is worth is what the hold of that sum in a sandbox is worth. -/
noncomputable def Try.pinned : Pinned := { name := "ytdaaodknplbmkaa", sum := "cad86dffef993609286f4b125bc3eaae8eea108bde3b53c8e161540858d770b0", checked := Try.checked }
namespace Rows
def none {H : Type} : Left H := { results := [], args := [] }

/-- 'galleylaw16.FlatAsks': WHATEVER THE INPUT: true; the input reads as it did. -/
def flatAsksSpec : ChangeSpec := { name := "flatAsks", fn := fun _ => fun
  | [d] => { results := [.lit (.bool true)], args := [d] }
  | _ => none }
def flatAsksRow : OpenClaim := { program := "ytdaaodknplbmkaa", sum := "cad86dffef993609286f4b125bc3eaae8eea108bde3b53c8e161540858d770b0", func := "galley/galleylaw16.FlatAsks", spec := "flatAsks", inPlace := ["internal/abi.NoEscape"], unfollowed := true, recurses := true, loops := true, apart := false }
def FlatAsksSaid : Prop := flatAsksRow.holds Try.pinned (OpenSpec.ofChange flatAsksSpec)

/-- ITS FALSE NEIGHBOUR: 'it returns false'. Refute it at one input. -/
def flatAsksWrong : ChangeSpec := { name := "flatAsks", fn := fun _ => fun
  | [d] => { results := [.lit (.bool false)], args := [d] }
  | _ => none }
def FlatAsksWrongFalsely : Prop := flatAsksRow.holds Try.pinned (OpenSpec.ofChange flatAsksWrong)

/-- 'galleylaw16.FlatWide': WHATEVER THE INPUT: true; the input reads as it did. -/
def flatWideSpec : ChangeSpec := { name := "flatWide", fn := fun _ => fun
  | [d] => { results := [.lit (.bool true)], args := [d] }
  | _ => none }
def flatWideRow : OpenClaim := { program := "ytdaaodknplbmkaa", sum := "cad86dffef993609286f4b125bc3eaae8eea108bde3b53c8e161540858d770b0", func := "galley/galleylaw16.FlatWide", spec := "flatWide", inPlace := ["internal/abi.NoEscape"], unfollowed := true, recurses := true, loops := true, apart := false }
def FlatWideSaid : Prop := flatWideRow.holds Try.pinned (OpenSpec.ofChange flatWideSpec)

/-- ITS FALSE NEIGHBOUR: 'it returns false'. Refute it at one input. -/
def flatWideWrong : ChangeSpec := { name := "flatWide", fn := fun _ => fun
  | [d] => { results := [.lit (.bool false)], args := [d] }
  | _ => none }
def FlatWideWrongFalsely : Prop := flatWideRow.holds Try.pinned (OpenSpec.ofChange flatWideWrong)

/-- 'galleylaw16.FlatRows': WHATEVER THE INPUT: true; the input reads as it did. -/
def flatRowsSpec : ChangeSpec := { name := "flatRows", fn := fun _ => fun
  | [d1, d2] => { results := [.lit (.bool true)], args := [d1, d2] }
  | _ => none }
def flatRowsRow : OpenClaim := { program := "ytdaaodknplbmkaa", sum := "cad86dffef993609286f4b125bc3eaae8eea108bde3b53c8e161540858d770b0", func := "galley/galleylaw16.FlatRows", spec := "flatRows", inPlace := ["internal/abi.NoEscape"], unfollowed := true, recurses := true, loops := true, apart := false }
def FlatRowsSaid : Prop := flatRowsRow.holds Try.pinned (OpenSpec.ofChange flatRowsSpec)

/-- ITS FALSE NEIGHBOUR: 'it returns false'. Refute it at one input. -/
def flatRowsWrong : ChangeSpec := { name := "flatRows", fn := fun _ => fun
  | [d1, d2] => { results := [.lit (.bool false)], args := [d1, d2] }
  | _ => none }
def FlatRowsWrongFalsely : Prop := flatRowsRow.holds Try.pinned (OpenSpec.ofChange flatRowsWrong)

/- THE SECOND FORM. 'bulk': how many values and letters a reading holds, each counted each time it is reached (what is shared counts as often as it is met; a slice's spare places count too). A statement '..UptoSaid' is the law's where the arguments, and the package variables that the reading takes, are together of bulk at most 1048576: NARROWER than '..Said'. Prove '..Said' where nothing that the law and all that it calls make is longer than what came in: it says more and counts as full. Else prove '..UptoSaid'. A law counts once. -/
mutual
def uptoBulk {H : Type} : DataW H → Nat
  | .lit (.string bytes) => bytes.length + 1
  | .lit _ => 1
  | .nil => 1
  | .ptr d => uptoBulk d + 1
  | .slice elems spare => uptoBulkAll elems + uptoBulkAll spare + 1
  | .agg parts => uptoBulkAll parts + 1
  | .iface _ d => uptoBulk d + 1
  | .map entries => uptoBulkEntries entries + 1
  | .held _ => 1
def uptoBulkAll {H : Type} : List (DataW H) → Nat
  | [] => 0
  | d :: r => uptoBulk d + uptoBulkAll r
def uptoBulkEntries {H : Type} : List (Lit × DataW H) → Nat
  | [] => 0
  | x :: r => uptoBulkEntry x + uptoBulkEntries r
def uptoBulkEntry {H : Type} : Lit × DataW H → Nat
  | (.string bytes, d) => bytes.length + uptoBulk d + 1
  | (_, d) => uptoBulk d + 1
 end
def uptoSmall : (H : Type) → List (DataW H) → Bool := fun _ ds => decide (uptoBulkAll ds ≤ 1048576)
def OpenSpec.upto (s : _root_.Go.ChangeSpec) : _root_.Go.OpenSpec := { _root_.Go.OpenSpec.ofChange s with cond := some uptoSmall }

/-- 'galleylaw16.FlatAsks', WHERE WHAT IT READS IS OF BULK AT MOST 1048576: true; the input reads as it did. -/
def flatAsksUptoRow : OpenClaim := { program := "ytdaaodknplbmkaa", sum := "cad86dffef993609286f4b125bc3eaae8eea108bde3b53c8e161540858d770b0", func := "galley/galleylaw16.FlatAsks", spec := "flatAsks", inPlace := ["internal/abi.NoEscape"], unfollowed := true, recurses := true, loops := true, apart := false, narrowed := true }
def FlatAsksUptoSaid : Prop := flatAsksUptoRow.holds Try.pinned (OpenSpec.upto flatAsksSpec)

/-- 'galleylaw16.FlatWide', WHERE WHAT IT READS IS OF BULK AT MOST 1048576: true; the input reads as it did. -/
def flatWideUptoRow : OpenClaim := { program := "ytdaaodknplbmkaa", sum := "cad86dffef993609286f4b125bc3eaae8eea108bde3b53c8e161540858d770b0", func := "galley/galleylaw16.FlatWide", spec := "flatWide", inPlace := ["internal/abi.NoEscape"], unfollowed := true, recurses := true, loops := true, apart := false, narrowed := true }
def FlatWideUptoSaid : Prop := flatWideUptoRow.holds Try.pinned (OpenSpec.upto flatWideSpec)

/-- 'galleylaw16.FlatRows', WHERE WHAT IT READS IS OF BULK AT MOST 1048576: true; the input reads as it did. -/
def flatRowsUptoRow : OpenClaim := { program := "ytdaaodknplbmkaa", sum := "cad86dffef993609286f4b125bc3eaae8eea108bde3b53c8e161540858d770b0", func := "galley/galleylaw16.FlatRows", spec := "flatRows", inPlace := ["internal/abi.NoEscape"], unfollowed := true, recurses := true, loops := true, apart := false, narrowed := true }
def FlatRowsUptoSaid : Prop := flatRowsUptoRow.holds Try.pinned (OpenSpec.upto flatRowsSpec)

end Rows
end Go.Proofs.Ytdaaodknplbmkaa
