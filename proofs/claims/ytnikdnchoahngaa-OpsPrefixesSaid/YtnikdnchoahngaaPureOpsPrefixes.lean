/- OpsPrefixes: at every input it comes out true. Printed by finlaw.py. -/
import Derived.Test.YtnikdnchoahngaaPureOpsPrefixesc0
set_option maxRecDepth 100000
set_option linter.unusedVariables false
namespace Go.Proofs.Ytnikdnchoahngaa.Am
open Go

theorem opsPrefixes_all : ∀ i, i < 19 → isTrue (ev cx2 20000 (.call 9 [.resid .i64 19 i] H0)) = true
  | 0, _ => opsPrefixes_0
  | 1, _ => opsPrefixes_1
  | 2, _ => opsPrefixes_2
  | 3, _ => opsPrefixes_3
  | 4, _ => opsPrefixes_4
  | 5, _ => opsPrefixes_5
  | 6, _ => opsPrefixes_6
  | 7, _ => opsPrefixes_7
  | 8, _ => opsPrefixes_8
  | 9, _ => opsPrefixes_9
  | 10, _ => opsPrefixes_10
  | 11, _ => opsPrefixes_11
  | 12, _ => opsPrefixes_12
  | 13, _ => opsPrefixes_13
  | 14, _ => opsPrefixes_14
  | 15, _ => opsPrefixes_15
  | 16, _ => opsPrefixes_16
  | 17, _ => opsPrefixes_17
  | 18, _ => opsPrefixes_18
  | n + 19, h => by omega
theorem opsPrefixes_walk (a0 : Int) (W : World) (w0 : (Lit.int .i64 a0).wf = true) : Calls Try.prog 9 #[.int .i64 a0] W fun e W' => e = .returned (.bool true) ∧ RowKit.Below W.heap.size W W' := by
  obtain ⟨r0, h0, v0⟩ := VR_rest (m := fun _ _ => none) a0 19 (by decide)
  exact walk_of cx2Ok (opsPrefixes_all r0 h0) (by simp only [VRs]; exact ⟨_, _, rfl, v0, rfl⟩) W
end Go.Proofs.Ytnikdnchoahngaa.Am
