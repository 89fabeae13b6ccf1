/- OpsAsks: at every input the law comes out true. Printed by law.py. -/
import Derived.Test.YtnikdnchoahngaaTruOpsAsks
import Derived.Below
set_option linter.unusedVariables false
set_option linter.unusedSimpArgs false
namespace Go.Proofs.Ytnikdnchoahngaa.Am
open Go

theorem opsAsks_walk (a0 : ByteArray) (W : World) (w0 : a0.size ≤ 140737488351232) : Calls Try.prog 7 #[.string a0] W fun e W' => e = .returned (.bool true) ∧ RowKit.Below W.heap.size W W' := by
  obtain ⟨k, h⟩ := opsAsks_true (a0.data.toList.map (·.toNat)) (bytes_lt a0) (by simpa using w0)
  exact law_walk (g7_ok k (a0.data.toList.map (·.toNat)) true h) (by simp only [VRs, VR]; exact ⟨_, _, rfl, ⟨a0, rfl, rfl⟩, rfl⟩) W
end Go.Proofs.Ytnikdnchoahngaa.Am
