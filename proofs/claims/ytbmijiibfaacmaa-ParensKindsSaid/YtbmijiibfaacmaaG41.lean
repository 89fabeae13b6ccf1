/- Function 41, plain, and that the program computes it. Printed by gen.py. -/
import Derived.Test.YtbmijiibfaacmaaTy
set_option maxRecDepth 100000
set_option linter.unusedVariables false
namespace Go.Proofs.Ytbmijiibfaacmaa.Am
open Go

/-! 41 galley/parens.in -/
noncomputable def X41 : Fx Bool := ⟨Try.prog, cx, Try.f41, fun r => .bool r, cxTi, cxOrd⟩
noncomputable def g41p0 : Pt := nav [0] (bodyAt Try.f41)
noncomputable def g41p1 : Pt := nav [0, 0, 0] g41p0
noncomputable def g41 (k : Nat) (a0 : Int) (a1 : Int) : Option Bool :=
  if (decide (0 ≤ a1)) then (if (decide (a1 < 64)) then ((shrS .u64 a0 (fwrap .u64 a1)).bind fun x0_10 => some (decide (andI .u64 x0_10 1 = 1))) else (some false)) else (some false)
theorem g41_ok (k : Nat) (a0 : Int) (a1 : Int) (r : Bool) (h : g41 k a0 a1 = some r) : PureOk Try.prog 41 [.int .u64 a0, .int .i64 a1] (.bool r) := by
  refine pure_of X41 Try.func41 (by decide +kernel) (by kernel_rfl) (t := g41 k a0 a1) ?_ h
  unfold g41
  refine ok_env (env' := [(0, .int .u64 a0), (1, .int .i64 a1)]) (by kernel_rfl) ?_
  refine ok_run 9 (p' := (atN 3 (ctl1 g41p1))) (env' := [(7, .bool (decide (0 ≤ a1))), (6, .bool (decide (0 ≤ a1))), (5, .int .i64 a1), (4, .bool false), (0, .int .u64 a0), (1, .int .i64 a1)]) (H' := (mkH [])) (by kernel_rfl) ?_
  refine ok_split 7 (b := decide (0 ≤ a1)) (by kernel_rfl) (fun hb => ?_) (fun hb => ?_)
  · refine ok_run 4 (p' := (atN 7 (ctl1 g41p1))) (env' := [(11, .bool (decide (a1 < 64))), (10, .bool (decide (a1 < 64))), (9, .bool (decide (a1 < 64))), (8, .int .i64 a1), (7, .bool true), (7, .bool (decide (0 ≤ a1))), (6, .bool (decide (0 ≤ a1))), (5, .int .i64 a1), (4, .bool false), (0, .int .u64 a0), (1, .int .i64 a1)]) (H' := (mkH [])) (by kernel_rfl) ?_
    refine ok_split 11 (b := decide (a1 < 64)) (by kernel_rfl) (fun hb => ?_) (fun hb => ?_)
    · refine ok_run 3 (p' := (atN 10 (ctl1 g41p1))) (env' := [(14, .int .u64 (fwrap .u64 a1)), (13, .int .i64 a1), (12, .int .u64 a0), (11, .bool true), (11, .bool (decide (a1 < 64))), (10, .bool (decide (a1 < 64))), (9, .bool (decide (a1 < 64))), (8, .int .i64 a1), (7, .bool true), (7, .bool (decide (0 ≤ a1))), (6, .bool (decide (0 ≤ a1))), (5, .int .i64 a1), (4, .bool false), (0, .int .u64 a0), (1, .int .i64 a1)]) (H' := (mkH [])) (by kernel_rfl) ?_
      refine ok_chk (fun (x0_10 : Int) => (.int .u64 x0_10, (mkH []))) (atN 11 (ctl1 g41p1)) (fun x0_10 => [(15, .int .u64 x0_10), (14, .int .u64 (fwrap .u64 a1)), (13, .int .i64 a1), (12, .int .u64 a0), (11, .bool true), (11, .bool (decide (a1 < 64))), (10, .bool (decide (a1 < 64))), (9, .bool (decide (a1 < 64))), (8, .int .i64 a1), (7, .bool true), (7, .bool (decide (0 ≤ a1))), (6, .bool (decide (0 ≤ a1))), (5, .int .i64 a1), (4, .bool false), (0, .int .u64 a0), (1, .int .i64 a1)]) (shrH (by kernel_rfl)) (fun _ => by kernel_rfl) (fun x0_10 hx0_10 => ?_)
      refine ok_run 6 (p' := .fin) (env' := [(4, .bool (decide (andI .u64 x0_10 1 = 1))), (18, .bool (decide (andI .u64 x0_10 1 = 1))), (17, .bool (decide (andI .u64 x0_10 1 = 1))), (16, .int .u64 (andI .u64 x0_10 1)), (15, .int .u64 x0_10), (14, .int .u64 (fwrap .u64 a1)), (13, .int .i64 a1), (12, .int .u64 a0), (11, .bool true), (11, .bool (decide (a1 < 64))), (10, .bool (decide (a1 < 64))), (9, .bool (decide (a1 < 64))), (8, .int .i64 a1), (7, .bool true), (7, .bool (decide (0 ≤ a1))), (6, .bool (decide (0 ≤ a1))), (5, .int .i64 a1), (4, .bool false), (0, .int .u64 a0), (1, .int .i64 a1)]) (H' := (mkH [])) (by kernel_rfl) ?_
      exact ok_ret (r := (decide (andI .u64 x0_10 1 = 1))) (xs := [.bool (decide (andI .u64 x0_10 1 = 1))]) (v := .bool (decide (andI .u64 x0_10 1 = 1))) (by kernel_rfl) (.pures (by kernel_rfl)) (by kernel_rfl)
    · refine ok_run 10 (p' := .fin) (env' := [(4, .bool false), (18, .bool false), (17, .tuple []), (16, .tuple []), (15, .tuple []), (14, .tuple []), (13, .tuple []), (12, .tuple []), (11, .bool false), (11, .bool (decide (a1 < 64))), (10, .bool (decide (a1 < 64))), (9, .bool (decide (a1 < 64))), (8, .int .i64 a1), (7, .bool true), (7, .bool (decide (0 ≤ a1))), (6, .bool (decide (0 ≤ a1))), (5, .int .i64 a1), (4, .bool false), (0, .int .u64 a0), (1, .int .i64 a1)]) (H' := (mkH [])) (by kernel_rfl) ?_
      exact ok_ret (r := false) (xs := [.bool false]) (v := .bool false) (by kernel_rfl) (.pures (by kernel_rfl)) (by kernel_rfl)
  · refine ok_run 14 (p' := .fin) (env' := [(4, .bool false), (18, .bool false), (17, .tuple []), (16, .tuple []), (15, .tuple []), (14, .tuple []), (13, .tuple []), (12, .tuple []), (11, .bool false), (10, .bool false), (9, .tuple []), (8, .tuple []), (7, .bool false), (7, .bool (decide (0 ≤ a1))), (6, .bool (decide (0 ≤ a1))), (5, .int .i64 a1), (4, .bool false), (0, .int .u64 a0), (1, .int .i64 a1)]) (H' := (mkH [])) (by kernel_rfl) ?_
    exact ok_ret (r := false) (xs := [.bool false]) (v := .bool false) (by kernel_rfl) (.pures (by kernel_rfl)) (by kernel_rfl)
end Go.Proofs.Ytbmijiibfaacmaa.Am
