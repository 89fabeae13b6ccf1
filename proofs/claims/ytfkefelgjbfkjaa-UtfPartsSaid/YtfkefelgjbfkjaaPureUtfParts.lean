/- UtfParts: at every input the law comes out true. Printed by law.py. -/
import Derived.Test.YtfkefelgjbfkjaaTruUtfParts
import Derived.Below
set_option linter.unusedVariables false
set_option linter.unusedSimpArgs false
namespace Go.Proofs.Ytfkefelgjbfkjaa.Am
open Go

theorem utfParts_walk (a0 : ByteArray) (a1 : ByteArray) (W : World) (w0 : a0.size ≤ 140737488351232) (w1 : a1.size ≤ 140737488351232) : Calls Try.prog 5 #[.string a0, .string a1] W fun e W' => e = .returned (.bool true) ∧ RowKit.Below W.heap.size W W' := by
  obtain ⟨k, h⟩ := utfParts_true (a0.data.toList.map (·.toNat)) (a1.data.toList.map (·.toNat)) (bytes_lt a0) (by simpa using w0) (bytes_lt a1) (by simpa using w1)
  exact law_walk (g5_ok k (a0.data.toList.map (·.toNat)) (a1.data.toList.map (·.toNat)) true h) (by simp only [VRs, VR]; exact ⟨_, _, rfl, ⟨a0, rfl, rfl⟩, ⟨_, _, rfl, ⟨a1, rfl, rfl⟩, rfl⟩⟩) W
end Go.Proofs.Ytfkefelgjbfkjaa.Am
