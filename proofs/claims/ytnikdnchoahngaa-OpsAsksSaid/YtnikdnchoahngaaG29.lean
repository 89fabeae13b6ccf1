/- Function 29, plain, and that the program computes it. Printed by gen.py. -/
import Derived.Test.YtnikdnchoahngaaTy
import Derived.Test.YtnikdnchoahngaaG23
import Derived.Test.YtnikdnchoahngaaG25
set_option maxRecDepth 100000
set_option linter.unusedVariables false
namespace Go.Proofs.Ytnikdnchoahngaa.Am
open Go

/-! 29 galley/ops.Left -/
noncomputable def X29 : Fx Int := ⟨Try.prog, cx, Try.f29, fun r => .int .i64 r, 0, fun _ => H0, cxTi, cxOrd⟩
noncomputable def g29p0 : Pt := nav [0] (bodyAt Try.f29)
noncomputable def g29p1 : Pt := nav [0, 0, 0, 0] g29p0
noncomputable def g29p2 : Pt := nav [0, 0] g29p1
noncomputable def g29p3 : Pt := nav [1, 0] g29p2
noncomputable def g29p4 : Pt := nav [2, 0, 0] g29p2
noncomputable def g29 (k : Nat) (a0 : (List Nat)) : Option Int :=
  (g25 k a0).bind fun x0_1 => if (decide (1 < x0_1)) then ((g23 k a0).bind fun x1_1 => some (fwrap .i64 (x1_1 + 1))) else ((g23 k a0).bind fun x2_1 => some x2_1)
theorem g29_ok (k : Nat) (a0 : (List Nat)) (r : Int) (h : g29 k a0 = some r) : PureOk Try.prog 29 [.str a0] (.int .i64 r) := by
  refine pure_of X29 (fun _ => rfl) Try.func29 (by decide +kernel) (by kernel_rfl) (t := g29 k a0) ?_ h
  unfold g29
  refine ok_env (env' := [(0, .str a0)]) (by kernel_rfl) ?_
  refine ok_run 8 (p' := (atN 1 (ctl1 g29p1))) (env' := [(3, .str a0), (2, .int .i64 0), (0, .str a0)]) (H' := (mkH [])) (by kernel_rfl) ?_
  refine ok_call (fun (x0_1 : Int) => .int .i64 x0_1) (atN 2 (ctl1 g29p1)) (fun x0_1 => [(4, .int .i64 x0_1), (3, .str a0), (2, .int .i64 0), (0, .str a0)]) (fi := 25) (args := [.str a0]) (by kernel_rfl) (by kernel_rfl) (fun _ => by kernel_rfl) (fun r h => g25_ok k a0 r h) (fun _ => by kernel_rfl) (fun x0_1 hx0_1 => ?_)
  refine ok_run 2 (p' := g29p2) (env' := [(5, .bool (decide (1 < x0_1))), (4, .int .i64 x0_1), (3, .str a0), (2, .int .i64 0), (0, .str a0)]) (H' := (mkH [])) (by kernel_rfl) ?_
  refine ok_split 5 (b := decide (1 < x0_1)) (by kernel_rfl) (fun hb => ?_) (fun hb => ?_)
  · refine ok_run 4 (p' := (atN 1 (ctl1 g29p3))) (env' := [(6, .str a0), (5, .bool true), (5, .bool (decide (1 < x0_1))), (4, .int .i64 x0_1), (3, .str a0), (2, .int .i64 0), (0, .str a0)]) (H' := (mkH [])) (by kernel_rfl) ?_
    refine ok_call (fun (x1_1 : Int) => .int .i64 x1_1) (atN 2 (ctl1 g29p3)) (fun x1_1 => [(7, .int .i64 x1_1), (6, .str a0), (5, .bool true), (5, .bool (decide (1 < x0_1))), (4, .int .i64 x0_1), (3, .str a0), (2, .int .i64 0), (0, .str a0)]) (fi := 23) (args := [.str a0]) (by kernel_rfl) (by kernel_rfl) (fun _ => by kernel_rfl) (fun r h => g23_ok k a0 r h) (fun _ => by kernel_rfl) (fun x1_1 hx1_1 => ?_)
    refine ok_run 4 (p' := .fin) (env' := [(2, .int .i64 (fwrap .i64 (x1_1 + 1))), (8, .int .i64 (fwrap .i64 (x1_1 + 1))), (7, .int .i64 x1_1), (6, .str a0), (5, .bool true), (5, .bool (decide (1 < x0_1))), (4, .int .i64 x0_1), (3, .str a0), (2, .int .i64 0), (0, .str a0)]) (H' := (mkH [])) (by kernel_rfl) ?_
    exact ok_ret (r := (fwrap .i64 (x1_1 + 1))) (xs := [.int .i64 (fwrap .i64 (x1_1 + 1))]) (v := .int .i64 (fwrap .i64 (x1_1 + 1))) (by kernel_rfl) (by kernel_rfl) (by kernel_rfl) (.pures (by kernel_rfl)) (by kernel_rfl)
  · refine ok_run 5 (p' := (atN 1 (ctl1 g29p4))) (env' := [(9, .str a0), (5, .bool false), (5, .bool (decide (1 < x0_1))), (4, .int .i64 x0_1), (3, .str a0), (2, .int .i64 0), (0, .str a0)]) (H' := (mkH [])) (by kernel_rfl) ?_
    refine ok_call (fun (x2_1 : Int) => .int .i64 x2_1) (atN 2 (ctl1 g29p4)) (fun x2_1 => [(10, .int .i64 x2_1), (9, .str a0), (5, .bool false), (5, .bool (decide (1 < x0_1))), (4, .int .i64 x0_1), (3, .str a0), (2, .int .i64 0), (0, .str a0)]) (fi := 23) (args := [.str a0]) (by kernel_rfl) (by kernel_rfl) (fun _ => by kernel_rfl) (fun r h => g23_ok k a0 r h) (fun _ => by kernel_rfl) (fun x2_1 hx2_1 => ?_)
    refine ok_run 3 (p' := .fin) (env' := [(2, .int .i64 x2_1), (10, .int .i64 x2_1), (9, .str a0), (5, .bool false), (5, .bool (decide (1 < x0_1))), (4, .int .i64 x0_1), (3, .str a0), (2, .int .i64 0), (0, .str a0)]) (H' := (mkH [])) (by kernel_rfl) ?_
    exact ok_ret (r := x2_1) (xs := [.int .i64 x2_1]) (v := .int .i64 x2_1) (by kernel_rfl) (by kernel_rfl) (by kernel_rfl) (.pures (by kernel_rfl)) (by kernel_rfl)
end Go.Proofs.Ytnikdnchoahngaa.Am
