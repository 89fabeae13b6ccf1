/- Function 43, plain, and that the program computes it. Printed by gen.py. -/
import Derived.Test.YtnikdnchoahngaaTy
set_option maxRecDepth 100000
set_option linter.unusedVariables false
namespace Go.Proofs.Ytnikdnchoahngaa.Am
open Go

/-! 43 galley/word.between -/
noncomputable def X43 : Fx Bool := ⟨Try.prog, cx, Try.f43, fun r => .bool r, 0, fun _ => H0, cxTi, cxOrd⟩
noncomputable def g43p0 : Pt := nav [0] (bodyAt Try.f43)
noncomputable def g43p1 : Pt := nav [0, 0, 0] g43p0
noncomputable def g43 (k : Nat) (a0 : Int) (a1 : Int) (a2 : Int) : Option Bool :=
  if (decide (a1 ≤ a0)) then (some (decide (a0 ≤ a2))) else (some false)
theorem g43_ok (k : Nat) (a0 : Int) (a1 : Int) (a2 : Int) (r : Bool) (h : g43 k a0 a1 a2 = some r) : PureOk Try.prog 43 [.int .u8 a0, .int .u8 a1, .int .u8 a2] (.bool r) := by
  refine pure_of X43 (fun _ => rfl) Try.func43 (by decide +kernel) (by kernel_rfl) (t := g43 k a0 a1 a2) ?_ h
  unfold g43
  refine ok_env (env' := [(0, .int .u8 a0), (1, .int .u8 a1), (2, .int .u8 a2)]) (by kernel_rfl) ?_
  refine ok_run 10 (p' := (atN 4 (ctl1 g43p1))) (env' := [(10, .bool (decide (a1 ≤ a0))), (9, .bool (decide (a1 ≤ a0))), (8, .int .u8 a1), (7, .int .u8 a0), (6, .bool false), (0, .int .u8 a0), (1, .int .u8 a1), (2, .int .u8 a2)]) (H' := (mkH [])) (by kernel_rfl) ?_
  refine ok_split 10 (b := decide (a1 ≤ a0)) (by kernel_rfl) (fun hb => ?_) (fun hb => ?_)
  · refine ok_run 7 (p' := .fin) (env' := [(6, .bool (decide (a0 ≤ a2))), (14, .bool (decide (a0 ≤ a2))), (13, .bool (decide (a0 ≤ a2))), (12, .int .u8 a2), (11, .int .u8 a0), (10, .bool true), (10, .bool (decide (a1 ≤ a0))), (9, .bool (decide (a1 ≤ a0))), (8, .int .u8 a1), (7, .int .u8 a0), (6, .bool false), (0, .int .u8 a0), (1, .int .u8 a1), (2, .int .u8 a2)]) (H' := (mkH [])) (by kernel_rfl) ?_
    exact ok_ret (r := (decide (a0 ≤ a2))) (xs := [.bool (decide (a0 ≤ a2))]) (v := .bool (decide (a0 ≤ a2))) (by kernel_rfl) (by kernel_rfl) (by kernel_rfl) (.pures (by kernel_rfl)) (by kernel_rfl)
  · refine ok_run 7 (p' := .fin) (env' := [(6, .bool false), (14, .bool false), (13, .tuple []), (12, .tuple []), (11, .tuple []), (10, .bool false), (10, .bool (decide (a1 ≤ a0))), (9, .bool (decide (a1 ≤ a0))), (8, .int .u8 a1), (7, .int .u8 a0), (6, .bool false), (0, .int .u8 a0), (1, .int .u8 a1), (2, .int .u8 a2)]) (H' := (mkH [])) (by kernel_rfl) ?_
    exact ok_ret (r := false) (xs := [.bool false]) (v := .bool false) (by kernel_rfl) (by kernel_rfl) (by kernel_rfl) (.pures (by kernel_rfl)) (by kernel_rfl)
end Go.Proofs.Ytnikdnchoahngaa.Am
