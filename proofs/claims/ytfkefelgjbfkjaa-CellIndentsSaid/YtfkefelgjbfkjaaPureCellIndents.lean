/- CellIndents: at every input the law comes out true. Printed by law.py. -/
import Derived.Test.YtfkefelgjbfkjaaTruCellIndents
import Derived.Below
set_option linter.unusedVariables false
set_option linter.unusedSimpArgs false
namespace Go.Proofs.Ytfkefelgjbfkjaa.Am
open Go

theorem cellIndents_walk (a0 : Int) (W : World) (w0 : (Lit.int .i64 a0).wf = true) : Calls Try.prog 10 #[.int .i64 a0] W fun e W' => e = .returned (.bool true) ∧ RowKit.Below W.heap.size W W' := by
  obtain ⟨k, h⟩ := cellIndents_true a0 
  exact law_walk (g10_ok k a0 true h) (by simp only [VRs, VR]; exact ⟨_, _, rfl, rfl, rfl⟩) W
end Go.Proofs.Ytfkefelgjbfkjaa.Am
