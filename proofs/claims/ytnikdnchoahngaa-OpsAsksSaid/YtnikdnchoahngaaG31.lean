/- Function 31, plain, and that the program computes it. Printed by gen.py. -/
import Derived.Test.YtnikdnchoahngaaTy
import Derived.Test.YtnikdnchoahngaaG23
import Derived.Test.YtnikdnchoahngaaG25
set_option maxRecDepth 100000
set_option linter.unusedVariables false
namespace Go.Proofs.Ytnikdnchoahngaa.Am
open Go

/-! 31 galley/ops.Right -/
noncomputable def X31 : Fx Int := ⟨Try.prog, cx, Try.f31, fun r => .int .i64 r, 0, fun _ => H0, cxTi, cxOrd⟩
noncomputable def g31p0 : Pt := nav [0] (bodyAt Try.f31)
noncomputable def g31p1 : Pt := nav [0, 0, 0, 0] g31p0
noncomputable def g31p2 : Pt := nav [0, 0] g31p1
noncomputable def g31p3 : Pt := nav [1, 0] g31p2
noncomputable def g31p4 : Pt := nav [2, 0, 0] g31p2
noncomputable def g31 (k : Nat) (a0 : (List Nat)) : Option Int :=
  (g25 k a0).bind fun x0_1 => if (decide (andI .i64 x0_1 1 = 1)) then ((g23 k a0).bind fun x1_1 => some (fwrap .i64 (x1_1 + 1))) else ((g23 k a0).bind fun x2_1 => some x2_1)
theorem g31_ok (k : Nat) (a0 : (List Nat)) (r : Int) (h : g31 k a0 = some r) : PureOk Try.prog 31 [.str a0] (.int .i64 r) := by
  refine pure_of X31 (fun _ => rfl) Try.func31 (by decide +kernel) (by kernel_rfl) (t := g31 k a0) ?_ h
  unfold g31
  refine ok_env (env' := [(0, .str a0)]) (by kernel_rfl) ?_
  refine ok_run 8 (p' := (atN 1 (ctl1 g31p1))) (env' := [(3, .str a0), (2, .int .i64 0), (0, .str a0)]) (H' := (mkH [])) (by kernel_rfl) ?_
  refine ok_call (fun (x0_1 : Int) => .int .i64 x0_1) (atN 2 (ctl1 g31p1)) (fun x0_1 => [(4, .int .i64 x0_1), (3, .str a0), (2, .int .i64 0), (0, .str a0)]) (fi := 25) (args := [.str a0]) (by kernel_rfl) (by kernel_rfl) (fun _ => by kernel_rfl) (fun r h => g25_ok k a0 r h) (fun _ => by kernel_rfl) (fun x0_1 hx0_1 => ?_)
  refine ok_run 3 (p' := g31p2) (env' := [(6, .bool (decide (andI .i64 x0_1 1 = 1))), (5, .int .i64 (andI .i64 x0_1 1)), (4, .int .i64 x0_1), (3, .str a0), (2, .int .i64 0), (0, .str a0)]) (H' := (mkH [])) (by kernel_rfl) ?_
  refine ok_split 6 (b := decide (andI .i64 x0_1 1 = 1)) (by kernel_rfl) (fun hb => ?_) (fun hb => ?_)
  · refine ok_run 4 (p' := (atN 1 (ctl1 g31p3))) (env' := [(7, .str a0), (6, .bool true), (6, .bool (decide (andI .i64 x0_1 1 = 1))), (5, .int .i64 (andI .i64 x0_1 1)), (4, .int .i64 x0_1), (3, .str a0), (2, .int .i64 0), (0, .str a0)]) (H' := (mkH [])) (by kernel_rfl) ?_
    refine ok_call (fun (x1_1 : Int) => .int .i64 x1_1) (atN 2 (ctl1 g31p3)) (fun x1_1 => [(8, .int .i64 x1_1), (7, .str a0), (6, .bool true), (6, .bool (decide (andI .i64 x0_1 1 = 1))), (5, .int .i64 (andI .i64 x0_1 1)), (4, .int .i64 x0_1), (3, .str a0), (2, .int .i64 0), (0, .str a0)]) (fi := 23) (args := [.str a0]) (by kernel_rfl) (by kernel_rfl) (fun _ => by kernel_rfl) (fun r h => g23_ok k a0 r h) (fun _ => by kernel_rfl) (fun x1_1 hx1_1 => ?_)
    refine ok_run 4 (p' := .fin) (env' := [(2, .int .i64 (fwrap .i64 (x1_1 + 1))), (9, .int .i64 (fwrap .i64 (x1_1 + 1))), (8, .int .i64 x1_1), (7, .str a0), (6, .bool true), (6, .bool (decide (andI .i64 x0_1 1 = 1))), (5, .int .i64 (andI .i64 x0_1 1)), (4, .int .i64 x0_1), (3, .str a0), (2, .int .i64 0), (0, .str a0)]) (H' := (mkH [])) (by kernel_rfl) ?_
    exact ok_ret (r := (fwrap .i64 (x1_1 + 1))) (xs := [.int .i64 (fwrap .i64 (x1_1 + 1))]) (v := .int .i64 (fwrap .i64 (x1_1 + 1))) (by kernel_rfl) (by kernel_rfl) (by kernel_rfl) (.pures (by kernel_rfl)) (by kernel_rfl)
  · refine ok_run 5 (p' := (atN 1 (ctl1 g31p4))) (env' := [(10, .str a0), (6, .bool false), (6, .bool (decide (andI .i64 x0_1 1 = 1))), (5, .int .i64 (andI .i64 x0_1 1)), (4, .int .i64 x0_1), (3, .str a0), (2, .int .i64 0), (0, .str a0)]) (H' := (mkH [])) (by kernel_rfl) ?_
    refine ok_call (fun (x2_1 : Int) => .int .i64 x2_1) (atN 2 (ctl1 g31p4)) (fun x2_1 => [(11, .int .i64 x2_1), (10, .str a0), (6, .bool false), (6, .bool (decide (andI .i64 x0_1 1 = 1))), (5, .int .i64 (andI .i64 x0_1 1)), (4, .int .i64 x0_1), (3, .str a0), (2, .int .i64 0), (0, .str a0)]) (fi := 23) (args := [.str a0]) (by kernel_rfl) (by kernel_rfl) (fun _ => by kernel_rfl) (fun r h => g23_ok k a0 r h) (fun _ => by kernel_rfl) (fun x2_1 hx2_1 => ?_)
    refine ok_run 3 (p' := .fin) (env' := [(2, .int .i64 x2_1), (11, .int .i64 x2_1), (10, .str a0), (6, .bool false), (6, .bool (decide (andI .i64 x0_1 1 = 1))), (5, .int .i64 (andI .i64 x0_1 1)), (4, .int .i64 x0_1), (3, .str a0), (2, .int .i64 0), (0, .str a0)]) (H' := (mkH [])) (by kernel_rfl) ?_
    exact ok_ret (r := x2_1) (xs := [.int .i64 x2_1]) (v := .int .i64 x2_1) (by kernel_rfl) (by kernel_rfl) (by kernel_rfl) (.pures (by kernel_rfl)) (by kernel_rfl)
end Go.Proofs.Ytnikdnchoahngaa.Am
