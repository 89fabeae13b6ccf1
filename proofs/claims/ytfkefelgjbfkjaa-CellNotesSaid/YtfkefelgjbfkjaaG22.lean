/- Function 22, plain, and that the program computes it. Printed by gen.py. -/
import Derived.Test.YtfkefelgjbfkjaaTy
import Derived.Test.YtfkefelgjbfkjaaG17
set_option maxRecDepth 100000
set_option linter.unusedVariables false
namespace Go.Proofs.Ytfkefelgjbfkjaa.Am
open Go

/-! 22 galley/cell.Width -/
noncomputable def X22 : Fx Int := ⟨Try.prog, cx, Try.f22, fun r => .int .i64 r, cxTi, cxOrd⟩
noncomputable def g22p0 : Pt := nav [0] (bodyAt Try.f22)
noncomputable def g22p1 : Pt := nav [0, 0, 0] g22p0
noncomputable def g22 (k : Nat) (a0 : (List Nat)) : Option Int :=
  (g17 k a0).bind fun x0_1 => some x0_1
theorem g22_ok (k : Nat) (a0 : (List Nat)) (r : Int) (h : g22 k a0 = some r) : PureOk Try.prog 22 [.str a0] (.int .i64 r) := by
  refine pure_of X22 Try.func22 (by decide +kernel) (by kernel_rfl) (t := g22 k a0) ?_ h
  unfold g22
  refine ok_env (env' := [(0, .str a0)]) (by kernel_rfl) ?_
  refine ok_run 7 (p' := (atN 1 (ctl1 g22p1))) (env' := [(3, .str a0), (2, .int .i64 0), (0, .str a0)]) (H' := (mkH [])) (by kernel_rfl) ?_
  refine ok_call (fun (x0_1 : Int) => .int .i64 x0_1) (atN 2 (ctl1 g22p1)) (fun x0_1 => [(4, .int .i64 x0_1), (3, .str a0), (2, .int .i64 0), (0, .str a0)]) (fi := 17) (args := [.str a0]) (by kernel_rfl) (by kernel_rfl) (fun _ => by kernel_rfl) (fun r h => g17_ok k a0 r h) (fun _ => by kernel_rfl) (fun x0_1 hx0_1 => ?_)
  refine ok_run 3 (p' := .fin) (env' := [(2, .int .i64 x0_1), (4, .int .i64 x0_1), (3, .str a0), (2, .int .i64 0), (0, .str a0)]) (H' := (mkH [])) (by kernel_rfl) ?_
  exact ok_ret (r := x0_1) (xs := [.int .i64 x0_1]) (v := .int .i64 x0_1) (by kernel_rfl) (.pures (by kernel_rfl)) (by kernel_rfl)
end Go.Proofs.Ytfkefelgjbfkjaa.Am
