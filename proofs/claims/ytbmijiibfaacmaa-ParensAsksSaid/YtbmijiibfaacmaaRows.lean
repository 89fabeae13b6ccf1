/-
  NARROWER THAN 'FOR EVERY INPUT', by the rows' own cells (each row's printed sentence says how): ParensAsks: loops.
  DERIVED. THE GIVEN ROWS OF THIS SEAT. 11 by the template 'for every input the law returns true; each argument reads behind the call as it read before'; 0 by the template 'total and deterministic' (their statements: YtbmijiibfaacmaaTotals.lean).
  GIVEN WITH THE SEED: the statements are not yours to turn. If you find one false, say at which input.
  Laid BY PROGRAM, IN A SANDBOX (cutbox-rows.mjs): the forced cells as the released guide's own fill.sh prints them over the translation f68453005cb3e440… (all of the seat's roots in one cut). By AI agents, Wed Nov 11 2026. No macro, syntax, notation, axiom, sorry.
-/
import Derived.Test.YtbmijiibfaacmaaChecked
import GoSem.Claim
import GoSem.ClaimJoined
import GoSem.ClaimMapViews
import Derived.JoinedTies
import Derived.KernelRfl
namespace Go.Proofs.Ytbmijiibfaacmaa
/- THE CELL 'sum', in the pinned program and in every row, IS THE sha256 OF THE DUMP (.gsa) THAT YtbmijiibfaacmaaProg.lean LOADS. Nothing in Lean hashes anything: it is a label: what it is worth is what the hold of that sum in a sandbox is worth. -/
noncomputable def Try.pinned : Pinned := { name := "ytbmijiibfaacmaa", sum := "f68453005cb3e4402d400ba74faf11e1ec0449c36346c4b4470e06c808d0deb3", checked := Try.checked }
namespace Rows
def none {H : Type} : Left H := { results := [], args := [] }

/-- 'galleylaw18.ParensAsks': WHATEVER THE INPUT: true; the input reads as it did. -/
def parensAsksSpec : ChangeSpec := { name := "parensAsks", fn := fun _ => fun
  | [d1, d2, d3] => { results := [.lit (.bool true)], args := [d1, d2, d3] }
  | _ => none }
def parensAsksRow : OpenClaim := { program := "ytbmijiibfaacmaa", sum := "f68453005cb3e4402d400ba74faf11e1ec0449c36346c4b4470e06c808d0deb3", func := "galley/galleylaw18.ParensAsks", spec := "parensAsks", loops := true, apart := false }
def ParensAsksSaid : Prop := parensAsksRow.holds Try.pinned (OpenSpec.ofChange parensAsksSpec)

/-- ITS FALSE NEIGHBOUR: 'it returns false'. Refute it at one input. -/
def parensAsksWrong : ChangeSpec := { name := "parensAsks", fn := fun _ => fun
  | [d1, d2, d3] => { results := [.lit (.bool false)], args := [d1, d2, d3] }
  | _ => none }
def ParensAsksWrongFalsely : Prop := parensAsksRow.holds Try.pinned (OpenSpec.ofChange parensAsksWrong)

/-- 'galleylaw18.ParensOps': WHATEVER THE INPUT: true; the input reads as it did. -/
def parensOpsSpec : ChangeSpec := { name := "parensOps", fn := fun _ => fun
  | [d1, d2] => { results := [.lit (.bool true)], args := [d1, d2] }
  | _ => none }
def parensOpsRow : OpenClaim := { program := "ytbmijiibfaacmaa", sum := "f68453005cb3e4402d400ba74faf11e1ec0449c36346c4b4470e06c808d0deb3", func := "galley/galleylaw18.ParensOps", spec := "parensOps", apart := false }
def ParensOpsSaid : Prop := parensOpsRow.holds Try.pinned (OpenSpec.ofChange parensOpsSpec)

/-- ITS FALSE NEIGHBOUR: 'it returns false'. Refute it at one input. -/
def parensOpsWrong : ChangeSpec := { name := "parensOps", fn := fun _ => fun
  | [d1, d2] => { results := [.lit (.bool false)], args := [d1, d2] }
  | _ => none }
def ParensOpsWrongFalsely : Prop := parensOpsRow.holds Try.pinned (OpenSpec.ofChange parensOpsWrong)

/-- 'galleylaw18.ParensKinds': WHATEVER THE INPUT: true; the input reads as it did. -/
def parensKindsSpec : ChangeSpec := { name := "parensKinds", fn := fun _ => fun
  | [d1, d2, d3] => { results := [.lit (.bool true)], args := [d1, d2, d3] }
  | _ => none }
def parensKindsRow : OpenClaim := { program := "ytbmijiibfaacmaa", sum := "f68453005cb3e4402d400ba74faf11e1ec0449c36346c4b4470e06c808d0deb3", func := "galley/galleylaw18.ParensKinds", spec := "parensKinds", apart := false }
def ParensKindsSaid : Prop := parensKindsRow.holds Try.pinned (OpenSpec.ofChange parensKindsSpec)

/-- ITS FALSE NEIGHBOUR: 'it returns false'. Refute it at one input. -/
def parensKindsWrong : ChangeSpec := { name := "parensKinds", fn := fun _ => fun
  | [d1, d2, d3] => { results := [.lit (.bool false)], args := [d1, d2, d3] }
  | _ => none }
def ParensKindsWrongFalsely : Prop := parensKindsRow.holds Try.pinned (OpenSpec.ofChange parensKindsWrong)

/-- 'galleylaw8.SplitAsks': WHATEVER THE INPUT: true; the input reads as it did. -/
def splitAsksSpec : ChangeSpec := { name := "splitAsks", fn := fun _ => fun
  | [d1, d2] => { results := [.lit (.bool true)], args := [d1, d2] }
  | _ => none }
def splitAsksRow : OpenClaim := { program := "ytbmijiibfaacmaa", sum := "f68453005cb3e4402d400ba74faf11e1ec0449c36346c4b4470e06c808d0deb3", func := "galley/galleylaw8.SplitAsks", spec := "splitAsks", unfollowed := true, recurses := true, apart := false }
def SplitAsksSaid : Prop := splitAsksRow.holds Try.pinned (OpenSpec.ofChange splitAsksSpec)

/-- ITS FALSE NEIGHBOUR: 'it returns false'. Refute it at one input. -/
def splitAsksWrong : ChangeSpec := { name := "splitAsks", fn := fun _ => fun
  | [d1, d2] => { results := [.lit (.bool false)], args := [d1, d2] }
  | _ => none }
def SplitAsksWrongFalsely : Prop := splitAsksRow.holds Try.pinned (OpenSpec.ofChange splitAsksWrong)

/-- 'galleylaw8.SplitWhole': WHATEVER THE INPUT: true; the input reads as it did. -/
def splitWholeSpec : ChangeSpec := { name := "splitWhole", fn := fun _ => fun
  | [d] => { results := [.lit (.bool true)], args := [d] }
  | _ => none }
def splitWholeRow : OpenClaim := { program := "ytbmijiibfaacmaa", sum := "f68453005cb3e4402d400ba74faf11e1ec0449c36346c4b4470e06c808d0deb3", func := "galley/galleylaw8.SplitWhole", spec := "splitWhole", unfollowed := true, recurses := true, apart := false }
def SplitWholeSaid : Prop := splitWholeRow.holds Try.pinned (OpenSpec.ofChange splitWholeSpec)

/-- ITS FALSE NEIGHBOUR: 'it returns false'. Refute it at one input. -/
def splitWholeWrong : ChangeSpec := { name := "splitWhole", fn := fun _ => fun
  | [d] => { results := [.lit (.bool false)], args := [d] }
  | _ => none }
def SplitWholeWrongFalsely : Prop := splitWholeRow.holds Try.pinned (OpenSpec.ofChange splitWholeWrong)

/-- 'galleylaw8.SplitJoins': WHATEVER THE INPUT: true; the input reads as it did. -/
def splitJoinsSpec : ChangeSpec := { name := "splitJoins", fn := fun _ => fun
  | [d1, d2] => { results := [.lit (.bool true)], args := [d1, d2] }
  | _ => none }
def splitJoinsRow : OpenClaim := { program := "ytbmijiibfaacmaa", sum := "f68453005cb3e4402d400ba74faf11e1ec0449c36346c4b4470e06c808d0deb3", func := "galley/galleylaw8.SplitJoins", spec := "splitJoins", unfollowed := true, recurses := true, apart := false }
def SplitJoinsSaid : Prop := splitJoinsRow.holds Try.pinned (OpenSpec.ofChange splitJoinsSpec)

/-- ITS FALSE NEIGHBOUR: 'it returns false'. Refute it at one input. -/
def splitJoinsWrong : ChangeSpec := { name := "splitJoins", fn := fun _ => fun
  | [d1, d2] => { results := [.lit (.bool false)], args := [d1, d2] }
  | _ => none }
def SplitJoinsWrongFalsely : Prop := splitJoinsRow.holds Try.pinned (OpenSpec.ofChange splitJoinsWrong)

/-- 'galleylaw8.SplitMany': WHATEVER THE INPUT: true; the input reads as it did. -/
def splitManySpec : ChangeSpec := { name := "splitMany", fn := fun _ => fun
  | [d1, d2] => { results := [.lit (.bool true)], args := [d1, d2] }
  | _ => none }
def splitManyRow : OpenClaim := { program := "ytbmijiibfaacmaa", sum := "f68453005cb3e4402d400ba74faf11e1ec0449c36346c4b4470e06c808d0deb3", func := "galley/galleylaw8.SplitMany", spec := "splitMany", unfollowed := true, recurses := true, apart := false }
def SplitManySaid : Prop := splitManyRow.holds Try.pinned (OpenSpec.ofChange splitManySpec)

/-- ITS FALSE NEIGHBOUR: 'it returns false'. Refute it at one input. -/
def splitManyWrong : ChangeSpec := { name := "splitMany", fn := fun _ => fun
  | [d1, d2] => { results := [.lit (.bool false)], args := [d1, d2] }
  | _ => none }
def SplitManyWrongFalsely : Prop := splitManyRow.holds Try.pinned (OpenSpec.ofChange splitManyWrong)

/-- 'galleylaw7.GapAsks': WHATEVER THE INPUT: true; the input reads as it did. -/
def gapAsksSpec : ChangeSpec := { name := "gapAsks", fn := fun _ => fun
  | [d1, d2] => { results := [.lit (.bool true)], args := [d1, d2] }
  | _ => none }
def gapAsksRow : OpenClaim := { program := "ytbmijiibfaacmaa", sum := "f68453005cb3e4402d400ba74faf11e1ec0449c36346c4b4470e06c808d0deb3", func := "galley/galleylaw7.GapAsks", spec := "gapAsks", unfollowed := true, recurses := true, apart := false }
def GapAsksSaid : Prop := gapAsksRow.holds Try.pinned (OpenSpec.ofChange gapAsksSpec)

/-- ITS FALSE NEIGHBOUR: 'it returns false'. Refute it at one input. -/
def gapAsksWrong : ChangeSpec := { name := "gapAsks", fn := fun _ => fun
  | [d1, d2] => { results := [.lit (.bool false)], args := [d1, d2] }
  | _ => none }
def GapAsksWrongFalsely : Prop := gapAsksRow.holds Try.pinned (OpenSpec.ofChange gapAsksWrong)

/-- 'galleylaw7.GapDeep': WHATEVER THE INPUT: true; the input reads as it did. -/
def gapDeepSpec : ChangeSpec := { name := "gapDeep", fn := fun _ => fun
  | [d] => { results := [.lit (.bool true)], args := [d] }
  | _ => none }
def gapDeepRow : OpenClaim := { program := "ytbmijiibfaacmaa", sum := "f68453005cb3e4402d400ba74faf11e1ec0449c36346c4b4470e06c808d0deb3", func := "galley/galleylaw7.GapDeep", spec := "gapDeep", unfollowed := true, recurses := true, apart := false }
def GapDeepSaid : Prop := gapDeepRow.holds Try.pinned (OpenSpec.ofChange gapDeepSpec)

/-- ITS FALSE NEIGHBOUR: 'it returns false'. Refute it at one input. -/
def gapDeepWrong : ChangeSpec := { name := "gapDeep", fn := fun _ => fun
  | [d] => { results := [.lit (.bool false)], args := [d] }
  | _ => none }
def GapDeepWrongFalsely : Prop := gapDeepRow.holds Try.pinned (OpenSpec.ofChange gapDeepWrong)

/-- 'galleylaw7.GapNests': WHATEVER THE INPUT: true; the input reads as it did. -/
def gapNestsSpec : ChangeSpec := { name := "gapNests", fn := fun _ => fun
  | [d1, d2] => { results := [.lit (.bool true)], args := [d1, d2] }
  | _ => none }
def gapNestsRow : OpenClaim := { program := "ytbmijiibfaacmaa", sum := "f68453005cb3e4402d400ba74faf11e1ec0449c36346c4b4470e06c808d0deb3", func := "galley/galleylaw7.GapNests", spec := "gapNests", unfollowed := true, recurses := true, apart := false }
def GapNestsSaid : Prop := gapNestsRow.holds Try.pinned (OpenSpec.ofChange gapNestsSpec)

/-- ITS FALSE NEIGHBOUR: 'it returns false'. Refute it at one input. -/
def gapNestsWrong : ChangeSpec := { name := "gapNests", fn := fun _ => fun
  | [d1, d2] => { results := [.lit (.bool false)], args := [d1, d2] }
  | _ => none }
def GapNestsWrongFalsely : Prop := gapNestsRow.holds Try.pinned (OpenSpec.ofChange gapNestsWrong)

/-- 'galleylaw7.GapCounts': WHATEVER THE INPUT: true; the input reads as it did. -/
def gapCountsSpec : ChangeSpec := { name := "gapCounts", fn := fun _ => fun
  | [d1, d2] => { results := [.lit (.bool true)], args := [d1, d2] }
  | _ => none }
def gapCountsRow : OpenClaim := { program := "ytbmijiibfaacmaa", sum := "f68453005cb3e4402d400ba74faf11e1ec0449c36346c4b4470e06c808d0deb3", func := "galley/galleylaw7.GapCounts", spec := "gapCounts", unfollowed := true, recurses := true, apart := false }
def GapCountsSaid : Prop := gapCountsRow.holds Try.pinned (OpenSpec.ofChange gapCountsSpec)

/-- ITS FALSE NEIGHBOUR: 'it returns false'. Refute it at one input. -/
def gapCountsWrong : ChangeSpec := { name := "gapCounts", fn := fun _ => fun
  | [d1, d2] => { results := [.lit (.bool false)], args := [d1, d2] }
  | _ => none }
def GapCountsWrongFalsely : Prop := gapCountsRow.holds Try.pinned (OpenSpec.ofChange gapCountsWrong)

/- THE SECOND FORM. 'bulk': how many values and letters a reading holds, each counted each time it is reached (what is shared counts as often as it is met; a slice's spare places count too). A statement '..UptoSaid' is the law's where the arguments, and the package variables that the reading takes, are together of bulk at most 1048576: NARROWER than '..Said'. Prove '..Said' where nothing that the law and all that it calls make is longer than what came in: it says more and counts as full. Else prove '..UptoSaid'. A law counts once. -/
mutual
def uptoBulk {H : Type} : DataW H → Nat
  | .lit (.string bytes) => bytes.length + 1
  | .lit _ => 1
  | .nil => 1
  | .ptr d => uptoBulk d + 1
  | .slice elems spare => uptoBulkAll elems + uptoBulkAll spare + 1
  | .agg parts => uptoBulkAll parts + 1
  | .iface _ d => uptoBulk d + 1
  | .map entries => uptoBulkEntries entries + 1
  | .held _ => 1
def uptoBulkAll {H : Type} : List (DataW H) → Nat
  | [] => 0
  | d :: r => uptoBulk d + uptoBulkAll r
def uptoBulkEntries {H : Type} : List (Lit × DataW H) → Nat
  | [] => 0
  | x :: r => uptoBulkEntry x + uptoBulkEntries r
def uptoBulkEntry {H : Type} : Lit × DataW H → Nat
  | (.string bytes, d) => bytes.length + uptoBulk d + 1
  | (_, d) => uptoBulk d + 1
 end
def uptoSmall : (H : Type) → List (DataW H) → Bool := fun _ ds => decide (uptoBulkAll ds ≤ 1048576)
def OpenSpec.upto (s : _root_.Go.ChangeSpec) : _root_.Go.OpenSpec := { _root_.Go.OpenSpec.ofChange s with cond := some uptoSmall }

/-- 'galleylaw18.ParensAsks', WHERE WHAT IT READS IS OF BULK AT MOST 1048576: true; the input reads as it did. -/
def parensAsksUptoRow : OpenClaim := { program := "ytbmijiibfaacmaa", sum := "f68453005cb3e4402d400ba74faf11e1ec0449c36346c4b4470e06c808d0deb3", func := "galley/galleylaw18.ParensAsks", spec := "parensAsks", loops := true, apart := false, narrowed := true }
def ParensAsksUptoSaid : Prop := parensAsksUptoRow.holds Try.pinned (OpenSpec.upto parensAsksSpec)

/-- 'galleylaw18.ParensOps', WHERE WHAT IT READS IS OF BULK AT MOST 1048576: true; the input reads as it did. -/
def parensOpsUptoRow : OpenClaim := { program := "ytbmijiibfaacmaa", sum := "f68453005cb3e4402d400ba74faf11e1ec0449c36346c4b4470e06c808d0deb3", func := "galley/galleylaw18.ParensOps", spec := "parensOps", apart := false, narrowed := true }
def ParensOpsUptoSaid : Prop := parensOpsUptoRow.holds Try.pinned (OpenSpec.upto parensOpsSpec)

/-- 'galleylaw18.ParensKinds', WHERE WHAT IT READS IS OF BULK AT MOST 1048576: true; the input reads as it did. -/
def parensKindsUptoRow : OpenClaim := { program := "ytbmijiibfaacmaa", sum := "f68453005cb3e4402d400ba74faf11e1ec0449c36346c4b4470e06c808d0deb3", func := "galley/galleylaw18.ParensKinds", spec := "parensKinds", apart := false, narrowed := true }
def ParensKindsUptoSaid : Prop := parensKindsUptoRow.holds Try.pinned (OpenSpec.upto parensKindsSpec)

/-- 'galleylaw8.SplitAsks', WHERE WHAT IT READS IS OF BULK AT MOST 1048576: true; the input reads as it did. -/
def splitAsksUptoRow : OpenClaim := { program := "ytbmijiibfaacmaa", sum := "f68453005cb3e4402d400ba74faf11e1ec0449c36346c4b4470e06c808d0deb3", func := "galley/galleylaw8.SplitAsks", spec := "splitAsks", unfollowed := true, recurses := true, apart := false, narrowed := true }
def SplitAsksUptoSaid : Prop := splitAsksUptoRow.holds Try.pinned (OpenSpec.upto splitAsksSpec)

/-- 'galleylaw8.SplitWhole', WHERE WHAT IT READS IS OF BULK AT MOST 1048576: true; the input reads as it did. -/
def splitWholeUptoRow : OpenClaim := { program := "ytbmijiibfaacmaa", sum := "f68453005cb3e4402d400ba74faf11e1ec0449c36346c4b4470e06c808d0deb3", func := "galley/galleylaw8.SplitWhole", spec := "splitWhole", unfollowed := true, recurses := true, apart := false, narrowed := true }
def SplitWholeUptoSaid : Prop := splitWholeUptoRow.holds Try.pinned (OpenSpec.upto splitWholeSpec)

/-- 'galleylaw8.SplitJoins', WHERE WHAT IT READS IS OF BULK AT MOST 1048576: true; the input reads as it did. -/
def splitJoinsUptoRow : OpenClaim := { program := "ytbmijiibfaacmaa", sum := "f68453005cb3e4402d400ba74faf11e1ec0449c36346c4b4470e06c808d0deb3", func := "galley/galleylaw8.SplitJoins", spec := "splitJoins", unfollowed := true, recurses := true, apart := false, narrowed := true }
def SplitJoinsUptoSaid : Prop := splitJoinsUptoRow.holds Try.pinned (OpenSpec.upto splitJoinsSpec)

/-- 'galleylaw8.SplitMany', WHERE WHAT IT READS IS OF BULK AT MOST 1048576: true; the input reads as it did. -/
def splitManyUptoRow : OpenClaim := { program := "ytbmijiibfaacmaa", sum := "f68453005cb3e4402d400ba74faf11e1ec0449c36346c4b4470e06c808d0deb3", func := "galley/galleylaw8.SplitMany", spec := "splitMany", unfollowed := true, recurses := true, apart := false, narrowed := true }
def SplitManyUptoSaid : Prop := splitManyUptoRow.holds Try.pinned (OpenSpec.upto splitManySpec)

/-- 'galleylaw7.GapAsks', WHERE WHAT IT READS IS OF BULK AT MOST 1048576: true; the input reads as it did. -/
def gapAsksUptoRow : OpenClaim := { program := "ytbmijiibfaacmaa", sum := "f68453005cb3e4402d400ba74faf11e1ec0449c36346c4b4470e06c808d0deb3", func := "galley/galleylaw7.GapAsks", spec := "gapAsks", unfollowed := true, recurses := true, apart := false, narrowed := true }
def GapAsksUptoSaid : Prop := gapAsksUptoRow.holds Try.pinned (OpenSpec.upto gapAsksSpec)

/-- 'galleylaw7.GapDeep', WHERE WHAT IT READS IS OF BULK AT MOST 1048576: true; the input reads as it did. -/
def gapDeepUptoRow : OpenClaim := { program := "ytbmijiibfaacmaa", sum := "f68453005cb3e4402d400ba74faf11e1ec0449c36346c4b4470e06c808d0deb3", func := "galley/galleylaw7.GapDeep", spec := "gapDeep", unfollowed := true, recurses := true, apart := false, narrowed := true }
def GapDeepUptoSaid : Prop := gapDeepUptoRow.holds Try.pinned (OpenSpec.upto gapDeepSpec)

/-- 'galleylaw7.GapNests', WHERE WHAT IT READS IS OF BULK AT MOST 1048576: true; the input reads as it did. -/
def gapNestsUptoRow : OpenClaim := { program := "ytbmijiibfaacmaa", sum := "f68453005cb3e4402d400ba74faf11e1ec0449c36346c4b4470e06c808d0deb3", func := "galley/galleylaw7.GapNests", spec := "gapNests", unfollowed := true, recurses := true, apart := false, narrowed := true }
def GapNestsUptoSaid : Prop := gapNestsUptoRow.holds Try.pinned (OpenSpec.upto gapNestsSpec)

/-- 'galleylaw7.GapCounts', WHERE WHAT IT READS IS OF BULK AT MOST 1048576: true; the input reads as it did. -/
def gapCountsUptoRow : OpenClaim := { program := "ytbmijiibfaacmaa", sum := "f68453005cb3e4402d400ba74faf11e1ec0449c36346c4b4470e06c808d0deb3", func := "galley/galleylaw7.GapCounts", spec := "gapCounts", unfollowed := true, recurses := true, apart := false, narrowed := true }
def GapCountsUptoSaid : Prop := gapCountsUptoRow.holds Try.pinned (OpenSpec.upto gapCountsSpec)

end Rows
end Go.Proofs.Ytbmijiibfaacmaa
