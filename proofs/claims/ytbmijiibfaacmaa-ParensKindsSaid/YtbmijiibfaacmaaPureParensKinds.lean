/- ParensKinds: at every input the law comes out true. Printed by law.py. -/
import Derived.Test.YtbmijiibfaacmaaTruParensKinds
import Derived.Below
set_option linter.unusedVariables false
set_option linter.unusedSimpArgs false
namespace Go.Proofs.Ytbmijiibfaacmaa.Am
open Go

theorem parensKinds_walk (a0 : Int) (a1 : Int) (a2 : Int) (W : World) (w0 : (Lit.int .i64 a0).wf = true) (w1 : (Lit.int .i64 a1).wf = true) (w2 : (Lit.int .i64 a2).wf = true) : Calls Try.prog 5 #[.int .i64 a0, .int .i64 a1, .int .i64 a2] W fun e W' => e = .returned (.bool true) ∧ RowKit.Below W.heap.size W W' := by
  obtain ⟨k, h⟩ := parensKinds_true a0 a1 a2 
  exact law_walk (g5_ok k a0 a1 a2 true h) (by simp only [VRs, VR]; exact ⟨_, _, rfl, rfl, ⟨_, _, rfl, rfl, ⟨_, _, rfl, rfl, rfl⟩⟩⟩) W
end Go.Proofs.Ytbmijiibfaacmaa.Am
