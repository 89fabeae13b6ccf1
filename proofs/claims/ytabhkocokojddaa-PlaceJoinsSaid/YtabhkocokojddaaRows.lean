/-
  NARROWER THAN 'FOR EVERY INPUT', by the rows' own cells (each row's printed sentence says how): FlatAsks: loops · FlatWide: loops · FlatRows: loops.
  DERIVED. THE GIVEN ROWS OF THIS SEAT. 12 by the template 'for every input the law returns true; each argument reads behind the call as it read before'; 0 by the template 'total and deterministic' (their statements: YtabhkocokojddaaTotals.lean).
  GIVEN WITH THE SEED: the statements are not yours to turn. If you find one false, say at which input.
  Laid BY PROGRAM, IN A SANDBOX (cutbox-rows.mjs): the forced cells as the released guide's own fill.sh prints them over the translation c5ad84e577c21148… (all of the seat's roots in one cut). By AI agents, Wed Nov 11 2026. No macro, syntax, notation, axiom, sorry.
-/
import Derived.Test.YtabhkocokojddaaChecked
import GoSem.Claim
import GoSem.ClaimJoined
import GoSem.ClaimMapViews
import Derived.JoinedTies
import Derived.KernelRfl
namespace Go.Proofs.Ytabhkocokojddaa
/- THE CELL 'sum', in the pinned program and in every row, IS THE sha256 OF THE DUMP (.gsa) THAT YtabhkocokojddaaProg.lean LOADS. Nothing in Lean hashes anything: it is a label: what it is worth is what the hold of that sum in a sandbox is worth. -/
noncomputable def Try.pinned : Pinned := { name := "ytabhkocokojddaa", sum := "c5ad84e577c21148f599e15d65c427bf9e458aba804a177ebb8474358eb7e271", checked := Try.checked }
namespace Rows
def none {H : Type} : Left H := { results := [], args := [] }

/-- 'galleylaw2.PlaceStarts': WHATEVER THE INPUT: true; the input reads as it did. -/
def placeStartsSpec : ChangeSpec := { name := "placeStarts", fn := fun _ => fun
  | [d1, d2] => { results := [.lit (.bool true)], args := [d1, d2] }
  | _ => none }
def placeStartsRow : OpenClaim := { program := "ytabhkocokojddaa", sum := "c5ad84e577c21148f599e15d65c427bf9e458aba804a177ebb8474358eb7e271", func := "galley/galleylaw2.PlaceStarts", spec := "placeStarts", unfollowed := true, recurses := true, apart := false }
def PlaceStartsSaid : Prop := placeStartsRow.holds Try.pinned (OpenSpec.ofChange placeStartsSpec)

/-- ITS FALSE NEIGHBOUR: 'it returns false'. Refute it at one input. -/
def placeStartsWrong : ChangeSpec := { name := "placeStarts", fn := fun _ => fun
  | [d1, d2] => { results := [.lit (.bool false)], args := [d1, d2] }
  | _ => none }
def PlaceStartsWrongFalsely : Prop := placeStartsRow.holds Try.pinned (OpenSpec.ofChange placeStartsWrong)

/-- 'galleylaw2.PlaceAsks': WHATEVER THE INPUT: true; the input reads as it did. -/
def placeAsksSpec : ChangeSpec := { name := "placeAsks", fn := fun _ => fun
  | [d1, d2, d3] => { results := [.lit (.bool true)], args := [d1, d2, d3] }
  | _ => none }
def placeAsksRow : OpenClaim := { program := "ytabhkocokojddaa", sum := "c5ad84e577c21148f599e15d65c427bf9e458aba804a177ebb8474358eb7e271", func := "galley/galleylaw2.PlaceAsks", spec := "placeAsks", unfollowed := true, recurses := true, apart := false }
def PlaceAsksSaid : Prop := placeAsksRow.holds Try.pinned (OpenSpec.ofChange placeAsksSpec)

/-- ITS FALSE NEIGHBOUR: 'it returns false'. Refute it at one input. -/
def placeAsksWrong : ChangeSpec := { name := "placeAsks", fn := fun _ => fun
  | [d1, d2, d3] => { results := [.lit (.bool false)], args := [d1, d2, d3] }
  | _ => none }
def PlaceAsksWrongFalsely : Prop := placeAsksRow.holds Try.pinned (OpenSpec.ofChange placeAsksWrong)

/-- 'galleylaw2.PlaceBack': WHATEVER THE INPUT: true; the input reads as it did. -/
def placeBackSpec : ChangeSpec := { name := "placeBack", fn := fun _ => fun
  | [d] => { results := [.lit (.bool true)], args := [d] }
  | _ => none }
def placeBackRow : OpenClaim := { program := "ytabhkocokojddaa", sum := "c5ad84e577c21148f599e15d65c427bf9e458aba804a177ebb8474358eb7e271", func := "galley/galleylaw2.PlaceBack", spec := "placeBack", unfollowed := true, recurses := true, apart := false }
def PlaceBackSaid : Prop := placeBackRow.holds Try.pinned (OpenSpec.ofChange placeBackSpec)

/-- ITS FALSE NEIGHBOUR: 'it returns false'. Refute it at one input. -/
def placeBackWrong : ChangeSpec := { name := "placeBack", fn := fun _ => fun
  | [d] => { results := [.lit (.bool false)], args := [d] }
  | _ => none }
def PlaceBackWrongFalsely : Prop := placeBackRow.holds Try.pinned (OpenSpec.ofChange placeBackWrong)

/-- 'galleylaw2.PlaceJoins': WHATEVER THE INPUT: true; the input reads as it did. -/
def placeJoinsSpec : ChangeSpec := { name := "placeJoins", fn := fun _ => fun
  | [d1, d2, d3] => { results := [.lit (.bool true)], args := [d1, d2, d3] }
  | _ => none }
def placeJoinsRow : OpenClaim := { program := "ytabhkocokojddaa", sum := "c5ad84e577c21148f599e15d65c427bf9e458aba804a177ebb8474358eb7e271", func := "galley/galleylaw2.PlaceJoins", spec := "placeJoins", unfollowed := true, recurses := true, apart := false }
def PlaceJoinsSaid : Prop := placeJoinsRow.holds Try.pinned (OpenSpec.ofChange placeJoinsSpec)

/-- ITS FALSE NEIGHBOUR: 'it returns false'. Refute it at one input. -/
def placeJoinsWrong : ChangeSpec := { name := "placeJoins", fn := fun _ => fun
  | [d1, d2, d3] => { results := [.lit (.bool false)], args := [d1, d2, d3] }
  | _ => none }
def PlaceJoinsWrongFalsely : Prop := placeJoinsRow.holds Try.pinned (OpenSpec.ofChange placeJoinsWrong)

/-- 'galleylaw16.FlatAsks': WHATEVER THE INPUT: true; the input reads as it did. -/
def flatAsksSpec : ChangeSpec := { name := "flatAsks", fn := fun _ => fun
  | [d] => { results := [.lit (.bool true)], args := [d] }
  | _ => none }
def flatAsksRow : OpenClaim := { program := "ytabhkocokojddaa", sum := "c5ad84e577c21148f599e15d65c427bf9e458aba804a177ebb8474358eb7e271", func := "galley/galleylaw16.FlatAsks", spec := "flatAsks", inPlace := ["internal/abi.NoEscape"], unfollowed := true, recurses := true, loops := true, apart := false }
def FlatAsksSaid : Prop := flatAsksRow.holds Try.pinned (OpenSpec.ofChange flatAsksSpec)

/-- ITS FALSE NEIGHBOUR: 'it returns false'. Refute it at one input. -/
def flatAsksWrong : ChangeSpec := { name := "flatAsks", fn := fun _ => fun
  | [d] => { results := [.lit (.bool false)], args := [d] }
  | _ => none }
def FlatAsksWrongFalsely : Prop := flatAsksRow.holds Try.pinned (OpenSpec.ofChange flatAsksWrong)

/-- 'galleylaw16.FlatWide': WHATEVER THE INPUT: true; the input reads as it did. -/
def flatWideSpec : ChangeSpec := { name := "flatWide", fn := fun _ => fun
  | [d] => { results := [.lit (.bool true)], args := [d] }
  | _ => none }
def flatWideRow : OpenClaim := { program := "ytabhkocokojddaa", sum := "c5ad84e577c21148f599e15d65c427bf9e458aba804a177ebb8474358eb7e271", func := "galley/galleylaw16.FlatWide", spec := "flatWide", inPlace := ["internal/abi.NoEscape"], unfollowed := true, recurses := true, loops := true, apart := false }
def FlatWideSaid : Prop := flatWideRow.holds Try.pinned (OpenSpec.ofChange flatWideSpec)

/-- ITS FALSE NEIGHBOUR: 'it returns false'. Refute it at one input. -/
def flatWideWrong : ChangeSpec := { name := "flatWide", fn := fun _ => fun
  | [d] => { results := [.lit (.bool false)], args := [d] }
  | _ => none }
def FlatWideWrongFalsely : Prop := flatWideRow.holds Try.pinned (OpenSpec.ofChange flatWideWrong)

/-- 'galleylaw16.FlatRows': WHATEVER THE INPUT: true; the input reads as it did. -/
def flatRowsSpec : ChangeSpec := { name := "flatRows", fn := fun _ => fun
  | [d1, d2] => { results := [.lit (.bool true)], args := [d1, d2] }
  | _ => none }
def flatRowsRow : OpenClaim := { program := "ytabhkocokojddaa", sum := "c5ad84e577c21148f599e15d65c427bf9e458aba804a177ebb8474358eb7e271", func := "galley/galleylaw16.FlatRows", spec := "flatRows", inPlace := ["internal/abi.NoEscape"], unfollowed := true, recurses := true, loops := true, apart := false }
def FlatRowsSaid : Prop := flatRowsRow.holds Try.pinned (OpenSpec.ofChange flatRowsSpec)

/-- ITS FALSE NEIGHBOUR: 'it returns false'. Refute it at one input. -/
def flatRowsWrong : ChangeSpec := { name := "flatRows", fn := fun _ => fun
  | [d1, d2] => { results := [.lit (.bool false)], args := [d1, d2] }
  | _ => none }
def FlatRowsWrongFalsely : Prop := flatRowsRow.holds Try.pinned (OpenSpec.ofChange flatRowsWrong)

/-- 'galleylaw4.LitAsks': WHATEVER THE INPUT: true; the input reads as it did. -/
def litAsksSpec : ChangeSpec := { name := "litAsks", fn := fun _ => fun
  | [d1, d2] => { results := [.lit (.bool true)], args := [d1, d2] }
  | _ => none }
def litAsksRow : OpenClaim := { program := "ytabhkocokojddaa", sum := "c5ad84e577c21148f599e15d65c427bf9e458aba804a177ebb8474358eb7e271", func := "galley/galleylaw4.LitAsks", spec := "litAsks", apart := false }
def LitAsksSaid : Prop := litAsksRow.holds Try.pinned (OpenSpec.ofChange litAsksSpec)

/-- ITS FALSE NEIGHBOUR: 'it returns false'. Refute it at one input. -/
def litAsksWrong : ChangeSpec := { name := "litAsks", fn := fun _ => fun
  | [d1, d2] => { results := [.lit (.bool false)], args := [d1, d2] }
  | _ => none }
def LitAsksWrongFalsely : Prop := litAsksRow.holds Try.pinned (OpenSpec.ofChange litAsksWrong)

/-- 'galleylaw4.LitWhole': WHATEVER THE INPUT: true; the input reads as it did. -/
def litWholeSpec : ChangeSpec := { name := "litWhole", fn := fun _ => fun
  | [d1, d2, d3, d4] => { results := [.lit (.bool true)], args := [d1, d2, d3, d4] }
  | _ => none }
def litWholeRow : OpenClaim := { program := "ytabhkocokojddaa", sum := "c5ad84e577c21148f599e15d65c427bf9e458aba804a177ebb8474358eb7e271", func := "galley/galleylaw4.LitWhole", spec := "litWhole", apart := false }
def LitWholeSaid : Prop := litWholeRow.holds Try.pinned (OpenSpec.ofChange litWholeSpec)

/-- ITS FALSE NEIGHBOUR: 'it returns false'. Refute it at one input. -/
def litWholeWrong : ChangeSpec := { name := "litWhole", fn := fun _ => fun
  | [d1, d2, d3, d4] => { results := [.lit (.bool false)], args := [d1, d2, d3, d4] }
  | _ => none }
def LitWholeWrongFalsely : Prop := litWholeRow.holds Try.pinned (OpenSpec.ofChange litWholeWrong)

/-- 'galleylaw4.LitEscapes': WHATEVER THE INPUT: true; the input reads as it did. -/
def litEscapesSpec : ChangeSpec := { name := "litEscapes", fn := fun _ => fun
  | [d1, d2] => { results := [.lit (.bool true)], args := [d1, d2] }
  | _ => none }
def litEscapesRow : OpenClaim := { program := "ytabhkocokojddaa", sum := "c5ad84e577c21148f599e15d65c427bf9e458aba804a177ebb8474358eb7e271", func := "galley/galleylaw4.LitEscapes", spec := "litEscapes", apart := false }
def LitEscapesSaid : Prop := litEscapesRow.holds Try.pinned (OpenSpec.ofChange litEscapesSpec)

/-- ITS FALSE NEIGHBOUR: 'it returns false'. Refute it at one input. -/
def litEscapesWrong : ChangeSpec := { name := "litEscapes", fn := fun _ => fun
  | [d1, d2] => { results := [.lit (.bool false)], args := [d1, d2] }
  | _ => none }
def LitEscapesWrongFalsely : Prop := litEscapesRow.holds Try.pinned (OpenSpec.ofChange litEscapesWrong)

/-- 'galleylaw4.LitChars': WHATEVER THE INPUT: true; the input reads as it did. -/
def litCharsSpec : ChangeSpec := { name := "litChars", fn := fun _ => fun
  | [d] => { results := [.lit (.bool true)], args := [d] }
  | _ => none }
def litCharsRow : OpenClaim := { program := "ytabhkocokojddaa", sum := "c5ad84e577c21148f599e15d65c427bf9e458aba804a177ebb8474358eb7e271", func := "galley/galleylaw4.LitChars", spec := "litChars", apart := false }
def LitCharsSaid : Prop := litCharsRow.holds Try.pinned (OpenSpec.ofChange litCharsSpec)

/-- ITS FALSE NEIGHBOUR: 'it returns false'. Refute it at one input. -/
def litCharsWrong : ChangeSpec := { name := "litChars", fn := fun _ => fun
  | [d] => { results := [.lit (.bool false)], args := [d] }
  | _ => none }
def LitCharsWrongFalsely : Prop := litCharsRow.holds Try.pinned (OpenSpec.ofChange litCharsWrong)

/-- 'galleylaw4.LitFloats': WHATEVER THE INPUT: true; the input reads as it did. -/
def litFloatsSpec : ChangeSpec := { name := "litFloats", fn := fun _ => fun
  | [d1, d2, d3, d4] => { results := [.lit (.bool true)], args := [d1, d2, d3, d4] }
  | _ => none }
def litFloatsRow : OpenClaim := { program := "ytabhkocokojddaa", sum := "c5ad84e577c21148f599e15d65c427bf9e458aba804a177ebb8474358eb7e271", func := "galley/galleylaw4.LitFloats", spec := "litFloats", apart := false }
def LitFloatsSaid : Prop := litFloatsRow.holds Try.pinned (OpenSpec.ofChange litFloatsSpec)

/-- ITS FALSE NEIGHBOUR: 'it returns false'. Refute it at one input. -/
def litFloatsWrong : ChangeSpec := { name := "litFloats", fn := fun _ => fun
  | [d1, d2, d3, d4] => { results := [.lit (.bool false)], args := [d1, d2, d3, d4] }
  | _ => none }
def LitFloatsWrongFalsely : Prop := litFloatsRow.holds Try.pinned (OpenSpec.ofChange litFloatsWrong)

/- THE SECOND FORM. 'bulk': how many values and letters a reading holds, each counted each time it is reached (what is shared counts as often as it is met; a slice's spare places count too). A statement '..UptoSaid' is the law's where the arguments, and the package variables that the reading takes, are together of bulk at most 1048576: NARROWER than '..Said'. Prove '..Said' where nothing that the law and all that it calls make is longer than what came in: it says more and counts as full. Else prove '..UptoSaid'. A law counts once. -/
mutual
def uptoBulk {H : Type} : DataW H → Nat
  | .lit (.string bytes) => bytes.length + 1
  | .lit _ => 1
  | .nil => 1
  | .ptr d => uptoBulk d + 1
  | .slice elems spare => uptoBulkAll elems + uptoBulkAll spare + 1
  | .agg parts => uptoBulkAll parts + 1
  | .iface _ d => uptoBulk d + 1
  | .map entries => uptoBulkEntries entries + 1
  | .held _ => 1
def uptoBulkAll {H : Type} : List (DataW H) → Nat
  | [] => 0
  | d :: r => uptoBulk d + uptoBulkAll r
def uptoBulkEntries {H : Type} : List (Lit × DataW H) → Nat
  | [] => 0
  | x :: r => uptoBulkEntry x + uptoBulkEntries r
def uptoBulkEntry {H : Type} : Lit × DataW H → Nat
  | (.string bytes, d) => bytes.length + uptoBulk d + 1
  | (_, d) => uptoBulk d + 1
 end
def uptoSmall : (H : Type) → List (DataW H) → Bool := fun _ ds => decide (uptoBulkAll ds ≤ 1048576)
def OpenSpec.upto (s : _root_.Go.ChangeSpec) : _root_.Go.OpenSpec := { _root_.Go.OpenSpec.ofChange s with cond := some uptoSmall }

/-- 'galleylaw2.PlaceStarts', WHERE WHAT IT READS IS OF BULK AT MOST 1048576: true; the input reads as it did. -/
def placeStartsUptoRow : OpenClaim := { program := "ytabhkocokojddaa", sum := "c5ad84e577c21148f599e15d65c427bf9e458aba804a177ebb8474358eb7e271", func := "galley/galleylaw2.PlaceStarts", spec := "placeStarts", unfollowed := true, recurses := true, apart := false, narrowed := true }
def PlaceStartsUptoSaid : Prop := placeStartsUptoRow.holds Try.pinned (OpenSpec.upto placeStartsSpec)

/-- 'galleylaw2.PlaceAsks', WHERE WHAT IT READS IS OF BULK AT MOST 1048576: true; the input reads as it did. -/
def placeAsksUptoRow : OpenClaim := { program := "ytabhkocokojddaa", sum := "c5ad84e577c21148f599e15d65c427bf9e458aba804a177ebb8474358eb7e271", func := "galley/galleylaw2.PlaceAsks", spec := "placeAsks", unfollowed := true, recurses := true, apart := false, narrowed := true }
def PlaceAsksUptoSaid : Prop := placeAsksUptoRow.holds Try.pinned (OpenSpec.upto placeAsksSpec)

/-- 'galleylaw2.PlaceBack', WHERE WHAT IT READS IS OF BULK AT MOST 1048576: true; the input reads as it did. -/
def placeBackUptoRow : OpenClaim := { program := "ytabhkocokojddaa", sum := "c5ad84e577c21148f599e15d65c427bf9e458aba804a177ebb8474358eb7e271", func := "galley/galleylaw2.PlaceBack", spec := "placeBack", unfollowed := true, recurses := true, apart := false, narrowed := true }
def PlaceBackUptoSaid : Prop := placeBackUptoRow.holds Try.pinned (OpenSpec.upto placeBackSpec)

/-- 'galleylaw2.PlaceJoins', WHERE WHAT IT READS IS OF BULK AT MOST 1048576: true; the input reads as it did. -/
def placeJoinsUptoRow : OpenClaim := { program := "ytabhkocokojddaa", sum := "c5ad84e577c21148f599e15d65c427bf9e458aba804a177ebb8474358eb7e271", func := "galley/galleylaw2.PlaceJoins", spec := "placeJoins", unfollowed := true, recurses := true, apart := false, narrowed := true }
def PlaceJoinsUptoSaid : Prop := placeJoinsUptoRow.holds Try.pinned (OpenSpec.upto placeJoinsSpec)

/-- 'galleylaw16.FlatAsks', WHERE WHAT IT READS IS OF BULK AT MOST 1048576: true; the input reads as it did. -/
def flatAsksUptoRow : OpenClaim := { program := "ytabhkocokojddaa", sum := "c5ad84e577c21148f599e15d65c427bf9e458aba804a177ebb8474358eb7e271", func := "galley/galleylaw16.FlatAsks", spec := "flatAsks", inPlace := ["internal/abi.NoEscape"], unfollowed := true, recurses := true, loops := true, apart := false, narrowed := true }
def FlatAsksUptoSaid : Prop := flatAsksUptoRow.holds Try.pinned (OpenSpec.upto flatAsksSpec)

/-- 'galleylaw16.FlatWide', WHERE WHAT IT READS IS OF BULK AT MOST 1048576: true; the input reads as it did. -/
def flatWideUptoRow : OpenClaim := { program := "ytabhkocokojddaa", sum := "c5ad84e577c21148f599e15d65c427bf9e458aba804a177ebb8474358eb7e271", func := "galley/galleylaw16.FlatWide", spec := "flatWide", inPlace := ["internal/abi.NoEscape"], unfollowed := true, recurses := true, loops := true, apart := false, narrowed := true }
def FlatWideUptoSaid : Prop := flatWideUptoRow.holds Try.pinned (OpenSpec.upto flatWideSpec)

/-- 'galleylaw16.FlatRows', WHERE WHAT IT READS IS OF BULK AT MOST 1048576: true; the input reads as it did. -/
def flatRowsUptoRow : OpenClaim := { program := "ytabhkocokojddaa", sum := "c5ad84e577c21148f599e15d65c427bf9e458aba804a177ebb8474358eb7e271", func := "galley/galleylaw16.FlatRows", spec := "flatRows", inPlace := ["internal/abi.NoEscape"], unfollowed := true, recurses := true, loops := true, apart := false, narrowed := true }
def FlatRowsUptoSaid : Prop := flatRowsUptoRow.holds Try.pinned (OpenSpec.upto flatRowsSpec)

/-- 'galleylaw4.LitAsks', WHERE WHAT IT READS IS OF BULK AT MOST 1048576: true; the input reads as it did. -/
def litAsksUptoRow : OpenClaim := { program := "ytabhkocokojddaa", sum := "c5ad84e577c21148f599e15d65c427bf9e458aba804a177ebb8474358eb7e271", func := "galley/galleylaw4.LitAsks", spec := "litAsks", apart := false, narrowed := true }
def LitAsksUptoSaid : Prop := litAsksUptoRow.holds Try.pinned (OpenSpec.upto litAsksSpec)

/-- 'galleylaw4.LitWhole', WHERE WHAT IT READS IS OF BULK AT MOST 1048576: true; the input reads as it did. -/
def litWholeUptoRow : OpenClaim := { program := "ytabhkocokojddaa", sum := "c5ad84e577c21148f599e15d65c427bf9e458aba804a177ebb8474358eb7e271", func := "galley/galleylaw4.LitWhole", spec := "litWhole", apart := false, narrowed := true }
def LitWholeUptoSaid : Prop := litWholeUptoRow.holds Try.pinned (OpenSpec.upto litWholeSpec)

/-- 'galleylaw4.LitEscapes', WHERE WHAT IT READS IS OF BULK AT MOST 1048576: true; the input reads as it did. -/
def litEscapesUptoRow : OpenClaim := { program := "ytabhkocokojddaa", sum := "c5ad84e577c21148f599e15d65c427bf9e458aba804a177ebb8474358eb7e271", func := "galley/galleylaw4.LitEscapes", spec := "litEscapes", apart := false, narrowed := true }
def LitEscapesUptoSaid : Prop := litEscapesUptoRow.holds Try.pinned (OpenSpec.upto litEscapesSpec)

/-- 'galleylaw4.LitChars', WHERE WHAT IT READS IS OF BULK AT MOST 1048576: true; the input reads as it did. -/
def litCharsUptoRow : OpenClaim := { program := "ytabhkocokojddaa", sum := "c5ad84e577c21148f599e15d65c427bf9e458aba804a177ebb8474358eb7e271", func := "galley/galleylaw4.LitChars", spec := "litChars", apart := false, narrowed := true }
def LitCharsUptoSaid : Prop := litCharsUptoRow.holds Try.pinned (OpenSpec.upto litCharsSpec)

/-- 'galleylaw4.LitFloats', WHERE WHAT IT READS IS OF BULK AT MOST 1048576: true; the input reads as it did. -/
def litFloatsUptoRow : OpenClaim := { program := "ytabhkocokojddaa", sum := "c5ad84e577c21148f599e15d65c427bf9e458aba804a177ebb8474358eb7e271", func := "galley/galleylaw4.LitFloats", spec := "litFloats", apart := false, narrowed := true }
def LitFloatsUptoSaid : Prop := litFloatsUptoRow.holds Try.pinned (OpenSpec.upto litFloatsSpec)

end Rows
end Go.Proofs.Ytabhkocokojddaa
