/- Function 37, plain, and that the program computes it. Printed by gen.py. -/
import Derived.Test.YtbmijiibfaacmaaTy
import Derived.Test.YtbmijiibfaacmaaG49
set_option maxRecDepth 100000
set_option linter.unusedVariables false
namespace Go.Proofs.Ytbmijiibfaacmaa.Am
open Go

/-! 37 galley/gap.Blank -/
noncomputable def X37 : Fx Bool := ⟨Try.prog, cx, Try.f37, fun r => .bool r, 0, fun _ => H0, cxTi, cxOrd⟩
noncomputable def g37p0 : Pt := nav [0] (bodyAt Try.f37)
noncomputable def g37p1 : Pt := nav [0, 0, 0] g37p0
noncomputable def g37 (k : Nat) (a0 : (List Nat)) (a1 : (List S46)) (a2 : Int) : Option Bool :=
  (g49 k a0 a1 a2).bind fun x0_3 => some (decide (1 < x0_3))
theorem g37_ok (k : Nat) (a0 : (List Nat)) (a1 : (List S46)) (a2 : Int) (r : Bool) (h : g37 k a0 a1 a2 = some r) : PureOk Try.prog 37 [.str a0, .vec (a1).length 3 ((a1).flatMap e47), .int .i64 a2] (.bool r) := by
  refine pure_of X37 (fun _ => rfl) Try.func37 (by decide +kernel) (by kernel_rfl) (t := g37 k a0 a1 a2) ?_ h
  unfold g37
  refine ok_env (env' := [(0, .str a0), (1, .vec (a1).length 3 ((a1).flatMap e47)), (2, .int .i64 a2)]) (by kernel_rfl) ?_
  refine ok_run 9 (p' := (atN 3 (ctl1 g37p1))) (env' := [(9, .int .i64 a2), (8, .vec (a1).length 3 ((a1).flatMap e47)), (7, .str a0), (6, .bool false), (0, .str a0), (1, .vec (a1).length 3 ((a1).flatMap e47)), (2, .int .i64 a2)]) (H' := (mkH [])) (by kernel_rfl) ?_
  refine ok_call (fun (x0_3 : Int) => .int .i64 x0_3) (atN 4 (ctl1 g37p1)) (fun x0_3 => [(10, .int .i64 x0_3), (9, .int .i64 a2), (8, .vec (a1).length 3 ((a1).flatMap e47)), (7, .str a0), (6, .bool false), (0, .str a0), (1, .vec (a1).length 3 ((a1).flatMap e47)), (2, .int .i64 a2)]) (fi := 49) (args := [.str a0, .vec (a1).length 3 ((a1).flatMap e47), .int .i64 a2]) (by kernel_rfl) (by kernel_rfl) (fun _ => by kernel_rfl) (fun r h => g49_ok k a0 a1 a2 r h) (fun _ => by kernel_rfl) (fun x0_3 hx0_3 => ?_)
  refine ok_run 4 (p' := .fin) (env' := [(6, .bool (decide (1 < x0_3))), (11, .bool (decide (1 < x0_3))), (10, .int .i64 x0_3), (9, .int .i64 a2), (8, .vec (a1).length 3 ((a1).flatMap e47)), (7, .str a0), (6, .bool false), (0, .str a0), (1, .vec (a1).length 3 ((a1).flatMap e47)), (2, .int .i64 a2)]) (H' := (mkH [])) (by kernel_rfl) ?_
  exact ok_ret (r := (decide (1 < x0_3))) (xs := [.bool (decide (1 < x0_3))]) (v := .bool (decide (1 < x0_3))) (by kernel_rfl) (by kernel_rfl) (by kernel_rfl) (.pures (by kernel_rfl)) (by kernel_rfl)
end Go.Proofs.Ytbmijiibfaacmaa.Am
