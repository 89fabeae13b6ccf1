/- Function 71, plain, and that the program computes it. Printed by gen.py. -/
import Derived.Test.YtbmijiibfaacmaaTy
set_option maxRecDepth 100000
set_option linter.unusedVariables false
namespace Go.Proofs.Ytbmijiibfaacmaa.Am
open Go

/-! 71 galley/galleyref1.Digit -/
noncomputable def X71 : Fx Bool := ⟨Try.prog, cx, Try.f71, fun r => .bool r, 0, fun _ => H0, cxTi, cxOrd⟩
noncomputable def g71p0 : Pt := nav [0] (bodyAt Try.f71)
noncomputable def g71p1 : Pt := nav [0, 0, 0] g71p0
noncomputable def g71 (k : Nat) (a0 : Int) : Option Bool :=
  if (decide (48 ≤ a0)) then (some (decide (a0 ≤ 57))) else (some false)
theorem g71_ok (k : Nat) (a0 : Int) (r : Bool) (h : g71 k a0 = some r) : PureOk Try.prog 71 [.int .u8 a0] (.bool r) := by
  refine pure_of X71 (fun _ => rfl) Try.func71 (by decide +kernel) (by kernel_rfl) (t := g71 k a0) ?_ h
  unfold g71
  refine ok_env (env' := [(0, .int .u8 a0)]) (by kernel_rfl) ?_
  refine ok_run 9 (p' := (atN 3 (ctl1 g71p1))) (env' := [(5, .bool (decide (48 ≤ a0))), (4, .bool (decide (48 ≤ a0))), (3, .int .u8 a0), (2, .bool false), (0, .int .u8 a0)]) (H' := (mkH [])) (by kernel_rfl) ?_
  refine ok_split 5 (b := decide (48 ≤ a0)) (by kernel_rfl) (fun hb => ?_) (fun hb => ?_)
  · refine ok_run 6 (p' := .fin) (env' := [(2, .bool (decide (a0 ≤ 57))), (8, .bool (decide (a0 ≤ 57))), (7, .bool (decide (a0 ≤ 57))), (6, .int .u8 a0), (5, .bool true), (5, .bool (decide (48 ≤ a0))), (4, .bool (decide (48 ≤ a0))), (3, .int .u8 a0), (2, .bool false), (0, .int .u8 a0)]) (H' := (mkH [])) (by kernel_rfl) ?_
    exact ok_ret (r := (decide (a0 ≤ 57))) (xs := [.bool (decide (a0 ≤ 57))]) (v := .bool (decide (a0 ≤ 57))) (by kernel_rfl) (by kernel_rfl) (by kernel_rfl) (.pures (by kernel_rfl)) (by kernel_rfl)
  · refine ok_run 6 (p' := .fin) (env' := [(2, .bool false), (8, .bool false), (7, .tuple []), (6, .tuple []), (5, .bool false), (5, .bool (decide (48 ≤ a0))), (4, .bool (decide (48 ≤ a0))), (3, .int .u8 a0), (2, .bool false), (0, .int .u8 a0)]) (H' := (mkH [])) (by kernel_rfl) ?_
    exact ok_ret (r := false) (xs := [.bool false]) (v := .bool false) (by kernel_rfl) (by kernel_rfl) (by kernel_rfl) (.pures (by kernel_rfl)) (by kernel_rfl)
end Go.Proofs.Ytbmijiibfaacmaa.Am
