/- Function 38, plain, and that the program computes it. Printed by gen.py. -/
import Derived.Test.YtbmijiibfaacmaaTy
set_option maxRecDepth 100000
set_option linter.unusedVariables false
namespace Go.Proofs.Ytbmijiibfaacmaa.Am
open Go

/-! 38 galley/gap.End -/
noncomputable def X38 : Fx Int := ⟨Try.prog, cx, Try.f38, fun r => .int .i64 r, 0, fun _ => H0, cxTi, cxOrd⟩
noncomputable def g38p0 : Pt := nav [0] (bodyAt Try.f38)
noncomputable def g38p1 : Pt := nav [0, 0, 0] g38p0
noncomputable def g38 (k : Nat) (a0 : S46) : Option Int :=
  some (fwrap .i64 (a0.f2 + (a0.f1.length : Int)))
theorem g38_ok (k : Nat) (a0 : S46) (r : Int) (h : g38 k a0 = some r) : PureOk Try.prog 38 [.agg [.int .i64 a0.f0, .str a0.f1, .int .i64 a0.f2]] (.int .i64 r) := by
  refine pure_of X38 (fun _ => rfl) Try.func38 (by decide +kernel) (by kernel_rfl) (t := g38 k a0) ?_ h
  unfold g38
  refine ok_env (env' := [(0, .agg [.int .i64 a0.f0, .str a0.f1, .int .i64 a0.f2])]) (by kernel_rfl) ?_
  refine ok_run 16 (p' := .fin) (env' := [(2, .int .i64 (fwrap .i64 (a0.f2 + (a0.f1.length : Int)))), (8, .int .i64 (fwrap .i64 (a0.f2 + (a0.f1.length : Int)))), (7, .int .i64 (a0.f1.length : Int)), (6, .str a0.f1), (5, .ptr 0 3 1), (4, .int .i64 a0.f2), (3, .ptr 0 3 2), (2, .int .i64 0), (1, .ptr 0 3 0), (0, .agg [.int .i64 a0.f0, .str a0.f1, .int .i64 a0.f2])]) (H' := (mkH [⟨[.int .i64 a0.f0, .str a0.f1, .int .i64 a0.f2], 0, false⟩])) (by kernel_rfl) ?_
  exact ok_ret (r := (fwrap .i64 (a0.f2 + (a0.f1.length : Int)))) (xs := [.int .i64 (fwrap .i64 (a0.f2 + (a0.f1.length : Int)))]) (v := .int .i64 (fwrap .i64 (a0.f2 + (a0.f1.length : Int)))) (by kernel_rfl) (by kernel_rfl) (by kernel_rfl) (.pures (by kernel_rfl)) (by kernel_rfl)
end Go.Proofs.Ytbmijiibfaacmaa.Am
