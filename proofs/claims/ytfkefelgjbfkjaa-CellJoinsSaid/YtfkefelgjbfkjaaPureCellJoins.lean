/- CellJoins: at every input the law comes out true. Printed by law.py. -/
import Derived.Test.YtfkefelgjbfkjaaTruCellJoins
import Derived.Below
set_option linter.unusedVariables false
set_option linter.unusedSimpArgs false
namespace Go.Proofs.Ytfkefelgjbfkjaa.Am
open Go

theorem cellJoins_walk (a0 : ByteArray) (a1 : ByteArray) (a2 : Int) (W : World) (w0 : a0.size ≤ 140737488351232) (w1 : a1.size ≤ 140737488351232) (w2 : (Lit.int .i64 a2).wf = true) : Calls Try.prog 9 #[.string a0, .string a1, .int .i64 a2] W fun e W' => e = .returned (.bool true) ∧ RowKit.Below W.heap.size W W' := by
  obtain ⟨k, h⟩ := cellJoins_true (a0.data.toList.map (·.toNat)) (a1.data.toList.map (·.toNat)) a2 (bytes_lt a0) (by simpa using w0) (bytes_lt a1) (by simpa using w1)
  exact law_walk (g9_ok k (a0.data.toList.map (·.toNat)) (a1.data.toList.map (·.toNat)) a2 true h) (by simp only [VRs, VR]; exact ⟨_, _, rfl, ⟨a0, rfl, rfl⟩, ⟨_, _, rfl, ⟨a1, rfl, rfl⟩, ⟨_, _, rfl, rfl, rfl⟩⟩⟩) W
end Go.Proofs.Ytfkefelgjbfkjaa.Am
