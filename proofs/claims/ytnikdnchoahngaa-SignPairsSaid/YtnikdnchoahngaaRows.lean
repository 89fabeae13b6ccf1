/-
  No cell of these rows narrows 'for every input' (looked for: loops, veiled, ifaces, maps, wideKeys, modest, calm, conditions, laid).
  DERIVED. THE GIVEN ROWS OF THIS SEAT. 10 by the template 'for every input the law returns true; each argument reads behind the call as it read before'; 0 by the template 'total and deterministic' (their statements: YtnikdnchoahngaaTotals.lean).
  GIVEN WITH THE SEED: the statements are not yours to turn. If you find one false, say at which input.
  Laid BY PROGRAM, IN A SANDBOX (cutbox-rows.mjs): the forced cells as the released guide's own fill.sh prints them over the translation c7d86d8b9a597b3f… (all of the seat's roots in one cut). By AI agents, Wed Nov 11 2026. No macro, syntax, notation, axiom, sorry.
-/
import Derived.Test.YtnikdnchoahngaaChecked
import GoSem.Claim
import GoSem.ClaimJoined
import GoSem.ClaimMapViews
import Derived.JoinedTies
import Derived.KernelRfl
namespace Go.Proofs.Ytnikdnchoahngaa
/- THE CELL 'sum', in the pinned program and in every row, IS THE sha256 OF THE DUMP (.gsa) THAT YtnikdnchoahngaaProg.lean LOADS. Nothing in Lean hashes anything: it is a label: what it is worth is what the hold of that sum in a sandbox is worth. -/
noncomputable def Try.pinned : Pinned := { name := "ytnikdnchoahngaa", sum := "c7d86d8b9a597b3f79bb532a8e36329cbe454a114abc354f367dc0e91b561189", checked := Try.checked }
namespace Rows
def none {H : Type} : Left H := { results := [], args := [] }

/-- 'galleylaw3.WordAsks': WHATEVER THE INPUT: true; the input reads as it did. -/
def wordAsksSpec : ChangeSpec := { name := "wordAsks", fn := fun _ => fun
  | [d1, d2] => { results := [.lit (.bool true)], args := [d1, d2] }
  | _ => none }
def wordAsksRow : OpenClaim := { program := "ytnikdnchoahngaa", sum := "c7d86d8b9a597b3f79bb532a8e36329cbe454a114abc354f367dc0e91b561189", func := "galley/galleylaw3.WordAsks", spec := "wordAsks", apart := false }
def WordAsksSaid : Prop := wordAsksRow.holds Try.pinned (OpenSpec.ofChange wordAsksSpec)

/-- ITS FALSE NEIGHBOUR: 'it returns false'. Refute it at one input. -/
def wordAsksWrong : ChangeSpec := { name := "wordAsks", fn := fun _ => fun
  | [d1, d2] => { results := [.lit (.bool false)], args := [d1, d2] }
  | _ => none }
def WordAsksWrongFalsely : Prop := wordAsksRow.holds Try.pinned (OpenSpec.ofChange wordAsksWrong)

/-- 'galleylaw3.WordBytes': WHATEVER THE INPUT: true; the input reads as it did. -/
def wordBytesSpec : ChangeSpec := { name := "wordBytes", fn := fun _ => fun
  | [d1, d2] => { results := [.lit (.bool true)], args := [d1, d2] }
  | _ => none }
def wordBytesRow : OpenClaim := { program := "ytnikdnchoahngaa", sum := "c7d86d8b9a597b3f79bb532a8e36329cbe454a114abc354f367dc0e91b561189", func := "galley/galleylaw3.WordBytes", spec := "wordBytes", apart := false }
def WordBytesSaid : Prop := wordBytesRow.holds Try.pinned (OpenSpec.ofChange wordBytesSpec)

/-- ITS FALSE NEIGHBOUR: 'it returns false'. Refute it at one input. -/
def wordBytesWrong : ChangeSpec := { name := "wordBytes", fn := fun _ => fun
  | [d1, d2] => { results := [.lit (.bool false)], args := [d1, d2] }
  | _ => none }
def WordBytesWrongFalsely : Prop := wordBytesRow.holds Try.pinned (OpenSpec.ofChange wordBytesWrong)

/-- 'galleylaw3.WordTurned': WHATEVER THE INPUT: true; the input reads as it did. -/
def wordTurnedSpec : ChangeSpec := { name := "wordTurned", fn := fun _ => fun
  | [d1, d2] => { results := [.lit (.bool true)], args := [d1, d2] }
  | _ => none }
def wordTurnedRow : OpenClaim := { program := "ytnikdnchoahngaa", sum := "c7d86d8b9a597b3f79bb532a8e36329cbe454a114abc354f367dc0e91b561189", func := "galley/galleylaw3.WordTurned", spec := "wordTurned", apart := false }
def WordTurnedSaid : Prop := wordTurnedRow.holds Try.pinned (OpenSpec.ofChange wordTurnedSpec)

/-- ITS FALSE NEIGHBOUR: 'it returns false'. Refute it at one input. -/
def wordTurnedWrong : ChangeSpec := { name := "wordTurned", fn := fun _ => fun
  | [d1, d2] => { results := [.lit (.bool false)], args := [d1, d2] }
  | _ => none }
def WordTurnedWrongFalsely : Prop := wordTurnedRow.holds Try.pinned (OpenSpec.ofChange wordTurnedWrong)

/-- 'galleylaw3.WordNames': WHATEVER THE INPUT: true; the input reads as it did. -/
def wordNamesSpec : ChangeSpec := { name := "wordNames", fn := fun _ => fun
  | [d1, d2, d3] => { results := [.lit (.bool true)], args := [d1, d2, d3] }
  | _ => none }
def wordNamesRow : OpenClaim := { program := "ytnikdnchoahngaa", sum := "c7d86d8b9a597b3f79bb532a8e36329cbe454a114abc354f367dc0e91b561189", func := "galley/galleylaw3.WordNames", spec := "wordNames", apart := false }
def WordNamesSaid : Prop := wordNamesRow.holds Try.pinned (OpenSpec.ofChange wordNamesSpec)

/-- ITS FALSE NEIGHBOUR: 'it returns false'. Refute it at one input. -/
def wordNamesWrong : ChangeSpec := { name := "wordNames", fn := fun _ => fun
  | [d1, d2, d3] => { results := [.lit (.bool false)], args := [d1, d2, d3] }
  | _ => none }
def WordNamesWrongFalsely : Prop := wordNamesRow.holds Try.pinned (OpenSpec.ofChange wordNamesWrong)

/-- 'galleylaw9.OpsAsks': WHATEVER THE INPUT: true; the input reads as it did. -/
def opsAsksSpec : ChangeSpec := { name := "opsAsks", fn := fun _ => fun
  | [d] => { results := [.lit (.bool true)], args := [d] }
  | _ => none }
def opsAsksRow : OpenClaim := { program := "ytnikdnchoahngaa", sum := "c7d86d8b9a597b3f79bb532a8e36329cbe454a114abc354f367dc0e91b561189", func := "galley/galleylaw9.OpsAsks", spec := "opsAsks", apart := false }
def OpsAsksSaid : Prop := opsAsksRow.holds Try.pinned (OpenSpec.ofChange opsAsksSpec)

/-- ITS FALSE NEIGHBOUR: 'it returns false'. Refute it at one input. -/
def opsAsksWrong : ChangeSpec := { name := "opsAsks", fn := fun _ => fun
  | [d] => { results := [.lit (.bool false)], args := [d] }
  | _ => none }
def OpsAsksWrongFalsely : Prop := opsAsksRow.holds Try.pinned (OpenSpec.ofChange opsAsksWrong)

/-- 'galleylaw9.OpsSides': WHATEVER THE INPUT: true; the input reads as it did. -/
def opsSidesSpec : ChangeSpec := { name := "opsSides", fn := fun _ => fun
  | [d1, d2] => { results := [.lit (.bool true)], args := [d1, d2] }
  | _ => none }
def opsSidesRow : OpenClaim := { program := "ytnikdnchoahngaa", sum := "c7d86d8b9a597b3f79bb532a8e36329cbe454a114abc354f367dc0e91b561189", func := "galley/galleylaw9.OpsSides", spec := "opsSides", apart := false }
def OpsSidesSaid : Prop := opsSidesRow.holds Try.pinned (OpenSpec.ofChange opsSidesSpec)

/-- ITS FALSE NEIGHBOUR: 'it returns false'. Refute it at one input. -/
def opsSidesWrong : ChangeSpec := { name := "opsSides", fn := fun _ => fun
  | [d1, d2] => { results := [.lit (.bool false)], args := [d1, d2] }
  | _ => none }
def OpsSidesWrongFalsely : Prop := opsSidesRow.holds Try.pinned (OpenSpec.ofChange opsSidesWrong)

/-- 'galleylaw9.OpsPrefixes': WHATEVER THE INPUT: true; the input reads as it did. -/
def opsPrefixesSpec : ChangeSpec := { name := "opsPrefixes", fn := fun _ => fun
  | [d] => { results := [.lit (.bool true)], args := [d] }
  | _ => none }
def opsPrefixesRow : OpenClaim := { program := "ytnikdnchoahngaa", sum := "c7d86d8b9a597b3f79bb532a8e36329cbe454a114abc354f367dc0e91b561189", func := "galley/galleylaw9.OpsPrefixes", spec := "opsPrefixes", apart := false }
def OpsPrefixesSaid : Prop := opsPrefixesRow.holds Try.pinned (OpenSpec.ofChange opsPrefixesSpec)

/-- ITS FALSE NEIGHBOUR: 'it returns false'. Refute it at one input. -/
def opsPrefixesWrong : ChangeSpec := { name := "opsPrefixes", fn := fun _ => fun
  | [d] => { results := [.lit (.bool false)], args := [d] }
  | _ => none }
def OpsPrefixesWrongFalsely : Prop := opsPrefixesRow.holds Try.pinned (OpenSpec.ofChange opsPrefixesWrong)

/-- 'galleylaw5.SignAsks': WHATEVER THE INPUT: true; the input reads as it did. -/
def signAsksSpec : ChangeSpec := { name := "signAsks", fn := fun _ => fun
  | [d1, d2, d3] => { results := [.lit (.bool true)], args := [d1, d2, d3] }
  | _ => none }
def signAsksRow : OpenClaim := { program := "ytnikdnchoahngaa", sum := "c7d86d8b9a597b3f79bb532a8e36329cbe454a114abc354f367dc0e91b561189", func := "galley/galleylaw5.SignAsks", spec := "signAsks", apart := false }
def SignAsksSaid : Prop := signAsksRow.holds Try.pinned (OpenSpec.ofChange signAsksSpec)

/-- ITS FALSE NEIGHBOUR: 'it returns false'. Refute it at one input. -/
def signAsksWrong : ChangeSpec := { name := "signAsks", fn := fun _ => fun
  | [d1, d2, d3] => { results := [.lit (.bool false)], args := [d1, d2, d3] }
  | _ => none }
def SignAsksWrongFalsely : Prop := signAsksRow.holds Try.pinned (OpenSpec.ofChange signAsksWrong)

/-- 'galleylaw5.SignGreedy': WHATEVER THE INPUT: true; the input reads as it did. -/
def signGreedySpec : ChangeSpec := { name := "signGreedy", fn := fun _ => fun
  | [d1, d2] => { results := [.lit (.bool true)], args := [d1, d2] }
  | _ => none }
def signGreedyRow : OpenClaim := { program := "ytnikdnchoahngaa", sum := "c7d86d8b9a597b3f79bb532a8e36329cbe454a114abc354f367dc0e91b561189", func := "galley/galleylaw5.SignGreedy", spec := "signGreedy", apart := false }
def SignGreedySaid : Prop := signGreedyRow.holds Try.pinned (OpenSpec.ofChange signGreedySpec)

/-- ITS FALSE NEIGHBOUR: 'it returns false'. Refute it at one input. -/
def signGreedyWrong : ChangeSpec := { name := "signGreedy", fn := fun _ => fun
  | [d1, d2] => { results := [.lit (.bool false)], args := [d1, d2] }
  | _ => none }
def SignGreedyWrongFalsely : Prop := signGreedyRow.holds Try.pinned (OpenSpec.ofChange signGreedyWrong)

/-- 'galleylaw5.SignPairs': WHATEVER THE INPUT: true; the input reads as it did. -/
def signPairsSpec : ChangeSpec := { name := "signPairs", fn := fun _ => fun
  | [d1, d2] => { results := [.lit (.bool true)], args := [d1, d2] }
  | _ => none }
def signPairsRow : OpenClaim := { program := "ytnikdnchoahngaa", sum := "c7d86d8b9a597b3f79bb532a8e36329cbe454a114abc354f367dc0e91b561189", func := "galley/galleylaw5.SignPairs", spec := "signPairs", apart := false }
def SignPairsSaid : Prop := signPairsRow.holds Try.pinned (OpenSpec.ofChange signPairsSpec)

/-- ITS FALSE NEIGHBOUR: 'it returns false'. Refute it at one input. -/
def signPairsWrong : ChangeSpec := { name := "signPairs", fn := fun _ => fun
  | [d1, d2] => { results := [.lit (.bool false)], args := [d1, d2] }
  | _ => none }
def SignPairsWrongFalsely : Prop := signPairsRow.holds Try.pinned (OpenSpec.ofChange signPairsWrong)

/- THE SECOND FORM. 'bulk': how many values and letters a reading holds, each counted each time it is reached (what is shared counts as often as it is met; a slice's spare places count too). A statement '..UptoSaid' is the law's where the arguments, and the package variables that the reading takes, are together of bulk at most 1048576: NARROWER than '..Said'. Prove '..Said' where nothing that the law and all that it calls make is longer than what came in: it says more and counts as full. Else prove '..UptoSaid'. A law counts once. -/
mutual
def uptoBulk {H : Type} : DataW H → Nat
  | .lit (.string bytes) => bytes.length + 1
  | .lit _ => 1
  | .nil => 1
  | .ptr d => uptoBulk d + 1
  | .slice elems spare => uptoBulkAll elems + uptoBulkAll spare + 1
  | .agg parts => uptoBulkAll parts + 1
  | .iface _ d => uptoBulk d + 1
  | .map entries => uptoBulkEntries entries + 1
  | .held _ => 1
def uptoBulkAll {H : Type} : List (DataW H) → Nat
  | [] => 0
  | d :: r => uptoBulk d + uptoBulkAll r
def uptoBulkEntries {H : Type} : List (Lit × DataW H) → Nat
  | [] => 0
  | x :: r => uptoBulkEntry x + uptoBulkEntries r
def uptoBulkEntry {H : Type} : Lit × DataW H → Nat
  | (.string bytes, d) => bytes.length + uptoBulk d + 1
  | (_, d) => uptoBulk d + 1
 end
def uptoSmall : (H : Type) → List (DataW H) → Bool := fun _ ds => decide (uptoBulkAll ds ≤ 1048576)
def OpenSpec.upto (s : _root_.Go.ChangeSpec) : _root_.Go.OpenSpec := { _root_.Go.OpenSpec.ofChange s with cond := some uptoSmall }

/-- 'galleylaw3.WordAsks', WHERE WHAT IT READS IS OF BULK AT MOST 1048576: true; the input reads as it did. -/
def wordAsksUptoRow : OpenClaim := { program := "ytnikdnchoahngaa", sum := "c7d86d8b9a597b3f79bb532a8e36329cbe454a114abc354f367dc0e91b561189", func := "galley/galleylaw3.WordAsks", spec := "wordAsks", apart := false, narrowed := true }
def WordAsksUptoSaid : Prop := wordAsksUptoRow.holds Try.pinned (OpenSpec.upto wordAsksSpec)

/-- 'galleylaw3.WordBytes', WHERE WHAT IT READS IS OF BULK AT MOST 1048576: true; the input reads as it did. -/
def wordBytesUptoRow : OpenClaim := { program := "ytnikdnchoahngaa", sum := "c7d86d8b9a597b3f79bb532a8e36329cbe454a114abc354f367dc0e91b561189", func := "galley/galleylaw3.WordBytes", spec := "wordBytes", apart := false, narrowed := true }
def WordBytesUptoSaid : Prop := wordBytesUptoRow.holds Try.pinned (OpenSpec.upto wordBytesSpec)

/-- 'galleylaw3.WordTurned', WHERE WHAT IT READS IS OF BULK AT MOST 1048576: true; the input reads as it did. -/
def wordTurnedUptoRow : OpenClaim := { program := "ytnikdnchoahngaa", sum := "c7d86d8b9a597b3f79bb532a8e36329cbe454a114abc354f367dc0e91b561189", func := "galley/galleylaw3.WordTurned", spec := "wordTurned", apart := false, narrowed := true }
def WordTurnedUptoSaid : Prop := wordTurnedUptoRow.holds Try.pinned (OpenSpec.upto wordTurnedSpec)

/-- 'galleylaw3.WordNames', WHERE WHAT IT READS IS OF BULK AT MOST 1048576: true; the input reads as it did. -/
def wordNamesUptoRow : OpenClaim := { program := "ytnikdnchoahngaa", sum := "c7d86d8b9a597b3f79bb532a8e36329cbe454a114abc354f367dc0e91b561189", func := "galley/galleylaw3.WordNames", spec := "wordNames", apart := false, narrowed := true }
def WordNamesUptoSaid : Prop := wordNamesUptoRow.holds Try.pinned (OpenSpec.upto wordNamesSpec)

/-- 'galleylaw9.OpsAsks', WHERE WHAT IT READS IS OF BULK AT MOST 1048576: true; the input reads as it did. -/
def opsAsksUptoRow : OpenClaim := { program := "ytnikdnchoahngaa", sum := "c7d86d8b9a597b3f79bb532a8e36329cbe454a114abc354f367dc0e91b561189", func := "galley/galleylaw9.OpsAsks", spec := "opsAsks", apart := false, narrowed := true }
def OpsAsksUptoSaid : Prop := opsAsksUptoRow.holds Try.pinned (OpenSpec.upto opsAsksSpec)

/-- 'galleylaw9.OpsSides', WHERE WHAT IT READS IS OF BULK AT MOST 1048576: true; the input reads as it did. -/
def opsSidesUptoRow : OpenClaim := { program := "ytnikdnchoahngaa", sum := "c7d86d8b9a597b3f79bb532a8e36329cbe454a114abc354f367dc0e91b561189", func := "galley/galleylaw9.OpsSides", spec := "opsSides", apart := false, narrowed := true }
def OpsSidesUptoSaid : Prop := opsSidesUptoRow.holds Try.pinned (OpenSpec.upto opsSidesSpec)

/-- 'galleylaw9.OpsPrefixes', WHERE WHAT IT READS IS OF BULK AT MOST 1048576: true; the input reads as it did. -/
def opsPrefixesUptoRow : OpenClaim := { program := "ytnikdnchoahngaa", sum := "c7d86d8b9a597b3f79bb532a8e36329cbe454a114abc354f367dc0e91b561189", func := "galley/galleylaw9.OpsPrefixes", spec := "opsPrefixes", apart := false, narrowed := true }
def OpsPrefixesUptoSaid : Prop := opsPrefixesUptoRow.holds Try.pinned (OpenSpec.upto opsPrefixesSpec)

/-- 'galleylaw5.SignAsks', WHERE WHAT IT READS IS OF BULK AT MOST 1048576: true; the input reads as it did. -/
def signAsksUptoRow : OpenClaim := { program := "ytnikdnchoahngaa", sum := "c7d86d8b9a597b3f79bb532a8e36329cbe454a114abc354f367dc0e91b561189", func := "galley/galleylaw5.SignAsks", spec := "signAsks", apart := false, narrowed := true }
def SignAsksUptoSaid : Prop := signAsksUptoRow.holds Try.pinned (OpenSpec.upto signAsksSpec)

/-- 'galleylaw5.SignGreedy', WHERE WHAT IT READS IS OF BULK AT MOST 1048576: true; the input reads as it did. -/
def signGreedyUptoRow : OpenClaim := { program := "ytnikdnchoahngaa", sum := "c7d86d8b9a597b3f79bb532a8e36329cbe454a114abc354f367dc0e91b561189", func := "galley/galleylaw5.SignGreedy", spec := "signGreedy", apart := false, narrowed := true }
def SignGreedyUptoSaid : Prop := signGreedyUptoRow.holds Try.pinned (OpenSpec.upto signGreedySpec)

/-- 'galleylaw5.SignPairs', WHERE WHAT IT READS IS OF BULK AT MOST 1048576: true; the input reads as it did. -/
def signPairsUptoRow : OpenClaim := { program := "ytnikdnchoahngaa", sum := "c7d86d8b9a597b3f79bb532a8e36329cbe454a114abc354f367dc0e91b561189", func := "galley/galleylaw5.SignPairs", spec := "signPairs", apart := false, narrowed := true }
def SignPairsUptoSaid : Prop := signPairsUptoRow.holds Try.pinned (OpenSpec.upto signPairsSpec)

end Rows
end Go.Proofs.Ytnikdnchoahngaa
