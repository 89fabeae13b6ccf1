/- ScanKinds: at every input the law comes out true. Printed by law.py. -/
import Derived.Test.YtokcjgjgojlhbaaTruScanKinds
import Derived.Below
set_option linter.unusedVariables false
set_option linter.unusedSimpArgs false
namespace Go.Proofs.Ytokcjgjgojlhbaa.Am
open Go

theorem scanKinds_walk (a0 : Int) (a1 : Int) (W : World) (w0 : (Lit.int .i64 a0).wf = true) (w1 : (Lit.int .i64 a1).wf = true) : Calls Try.prog 6 #[.int .i64 a0, .int .i64 a1] W fun e W' => e = .returned (.bool true) ∧ RowKit.Below W.heap.size W W' := by
  obtain ⟨k, h⟩ := scanKinds_true a0 a1 
  exact law_walk (g6_ok k a0 a1 true h) (by simp only [VRs, VR]; exact ⟨_, _, rfl, rfl, ⟨_, _, rfl, rfl, rfl⟩⟩) W
end Go.Proofs.Ytokcjgjgojlhbaa.Am
