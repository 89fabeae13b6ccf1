/- CellNotes: at every input the law comes out true. Printed by law.py. -/
import Derived.Test.YtfkefelgjbfkjaaTruCellNotes
import Derived.Below
set_option linter.unusedVariables false
set_option linter.unusedSimpArgs false
namespace Go.Proofs.Ytfkefelgjbfkjaa.Am
open Go

theorem cellNotes_walk (a0 : ByteArray) (W : World) (w0 : a0.size ≤ 140737488351232) : Calls Try.prog 11 #[.string a0] W fun e W' => e = .returned (.bool true) ∧ RowKit.Below W.heap.size W W' := by
  obtain ⟨k, h⟩ := cellNotes_true (a0.data.toList.map (·.toNat)) (bytes_lt a0) (by simpa using w0)
  exact law_walk (g11_ok k (a0.data.toList.map (·.toNat)) true h) (by simp only [VRs, VR]; exact ⟨_, _, rfl, ⟨a0, rfl, rfl⟩, rfl⟩) W
end Go.Proofs.Ytfkefelgjbfkjaa.Am
