/- OpsSides: at every input it comes out true. Printed by finlaw.py. -/
import Derived.Test.YtnikdnchoahngaaPureOpsSidesc0
import Derived.Test.YtnikdnchoahngaaPureOpsSidesc1
import Derived.Test.YtnikdnchoahngaaPureOpsSidesc2
import Derived.Test.YtnikdnchoahngaaPureOpsSidesc3
set_option maxRecDepth 100000
set_option linter.unusedVariables false
namespace Go.Proofs.Ytnikdnchoahngaa.Am
open Go

theorem opsSides_all0 : ∀ i, i < 30 → ((List.range 30).all fun j => isTrue (ev cx2 20000 (.call 8 [.resid .i64 30 i, .resid .i64 30 j] H0))) = true
  | 0, _ => opsSides_0
  | 1, _ => opsSides_1
  | 2, _ => opsSides_2
  | 3, _ => opsSides_3
  | 4, _ => opsSides_4
  | 5, _ => opsSides_5
  | 6, _ => opsSides_6
  | 7, _ => opsSides_7
  | 8, _ => opsSides_8
  | 9, _ => opsSides_9
  | 10, _ => opsSides_10
  | 11, _ => opsSides_11
  | 12, _ => opsSides_12
  | 13, _ => opsSides_13
  | 14, _ => opsSides_14
  | 15, _ => opsSides_15
  | 16, _ => opsSides_16
  | 17, _ => opsSides_17
  | 18, _ => opsSides_18
  | 19, _ => opsSides_19
  | 20, _ => opsSides_20
  | 21, _ => opsSides_21
  | 22, _ => opsSides_22
  | 23, _ => opsSides_23
  | 24, _ => opsSides_24
  | 25, _ => opsSides_25
  | 26, _ => opsSides_26
  | 27, _ => opsSides_27
  | 28, _ => opsSides_28
  | 29, _ => opsSides_29
  | n + 30, h => by omega
theorem opsSides_all (i j : Nat) (hi : i < 30) (hj : j < 30) : isTrue (ev cx2 20000 (.call 8 [.resid .i64 30 i, .resid .i64 30 j] H0)) = true := List.all_eq_true.1 (opsSides_all0 i hi) j (List.mem_range.2 hj)
theorem opsSides_walk (a0 a1 : Int) (W : World) (w0 : (Lit.int .i64 a0).wf = true) (w1 : (Lit.int .i64 a1).wf = true) : Calls Try.prog 8 #[.int .i64 a0, .int .i64 a1] W fun e W' => e = .returned (.bool true) ∧ RowKit.Below W.heap.size W W' := by
  obtain ⟨r0, h0, v0⟩ := VR_rest (m := fun _ _ => none) a0 30 (by decide)
  obtain ⟨r1, h1, v1⟩ := VR_rest (m := fun _ _ => none) a1 30 (by decide)
  exact walk_of cx2Ok (opsSides_all r0 r1 h0 h1) (by simp only [VRs]; exact ⟨_, _, rfl, v0, _, _, rfl, v1, rfl⟩) W
end Go.Proofs.Ytnikdnchoahngaa.Am
