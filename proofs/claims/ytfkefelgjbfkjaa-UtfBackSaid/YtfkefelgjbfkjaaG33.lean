/- Function 33, plain, and that the program computes it. Printed by gen.py. -/
import Derived.Test.YtfkefelgjbfkjaaTy
set_option maxRecDepth 100000
set_option linter.unusedVariables false
namespace Go.Proofs.Ytfkefelgjbfkjaa.Am
open Go

/-! 33 galley/utf.is -/
noncomputable def X33 : Fx Bool := ⟨Try.prog, cx, Try.f33, fun r => .bool r, 0, fun _ => H0, cxTi, cxOrd⟩
noncomputable def g33p0 : Pt := nav [0] (bodyAt Try.f33)
noncomputable def g33p1 : Pt := nav [0, 0, 0] g33p0
noncomputable def g33 (k : Nat) (a0 : Int) : Option Bool :=
  if (decide (0 ≤ a0)) then (if (decide (a0 ≤ 1114111)) then (some (!decide (shrC a0 11 = 27))) else (some false)) else (some false)
theorem g33_ok (k : Nat) (a0 : Int) (r : Bool) (h : g33 k a0 = some r) : PureOk Try.prog 33 [.int .i64 a0] (.bool r) := by
  refine pure_of X33 (fun _ => rfl) Try.func33 (by decide +kernel) (by kernel_rfl) (t := g33 k a0) ?_ h
  unfold g33
  refine ok_env (env' := [(0, .int .i64 a0)]) (by kernel_rfl) ?_
  let E1 : Env := [(5, .bool (decide (0 ≤ a0))), (4, .bool (decide (0 ≤ a0))), (3, .int .i64 a0), (2, .bool false), (0, .int .i64 a0)]
  refine ok_run 9 (p' := (atN 3 (ctl1 g33p1))) (env' := E1) (H' := (mkH [])) (by kernel_rfl) ?_
  refine ok_split 5 (b := decide (0 ≤ a0)) (by kernel_rfl) (fun hb => ?_) (fun hb => ?_)
  · let E2 : Env := ((9, .bool (decide (a0 ≤ 1114111))) :: (8, .bool (decide (a0 ≤ 1114111))) :: (7, .bool (decide (a0 ≤ 1114111))) :: (6, .int .i64 a0) :: (5, .bool true) :: E1)
    refine ok_run 4 (p' := (atN 7 (ctl1 g33p1))) (env' := E2) (H' := (mkH [])) (by kernel_rfl) ?_
    refine ok_split 9 (b := decide (a0 ≤ 1114111)) (by kernel_rfl) (fun hb => ?_) (fun hb => ?_)
    · let E3 : Env := ((2, .bool (!decide (shrC a0 11 = 27))) :: (13, .bool (!decide (shrC a0 11 = 27))) :: (12, .bool (!decide (shrC a0 11 = 27))) :: (11, .int .i64 (shrC a0 11)) :: (10, .int .i64 a0) :: (9, .bool true) :: E2)
      refine ok_run 7 (p' := .fin) (env' := E3) (H' := (mkH [])) (by kernel_rfl) ?_
      exact ok_ret (r := (!decide (shrC a0 11 = 27))) (xs := [.bool (!decide (shrC a0 11 = 27))]) (v := .bool (!decide (shrC a0 11 = 27))) (by kernel_rfl) (by kernel_rfl) (by kernel_rfl) (.pures (by kernel_rfl)) (by kernel_rfl)
    · let E4 : Env := ((2, .bool false) :: (13, .bool false) :: (12, .tuple []) :: (11, .tuple []) :: (10, .tuple []) :: (9, .bool false) :: E2)
      refine ok_run 7 (p' := .fin) (env' := E4) (H' := (mkH [])) (by kernel_rfl) ?_
      exact ok_ret (r := false) (xs := [.bool false]) (v := .bool false) (by kernel_rfl) (by kernel_rfl) (by kernel_rfl) (.pures (by kernel_rfl)) (by kernel_rfl)
  · let E5 : Env := ((2, .bool false) :: (13, .bool false) :: (12, .tuple []) :: (11, .tuple []) :: (10, .tuple []) :: (9, .bool false) :: (8, .bool false) :: (7, .tuple []) :: (6, .tuple []) :: (5, .bool false) :: E1)
    refine ok_run 11 (p' := .fin) (env' := E5) (H' := (mkH [])) (by kernel_rfl) ?_
    exact ok_ret (r := false) (xs := [.bool false]) (v := .bool false) (by kernel_rfl) (by kernel_rfl) (by kernel_rfl) (.pures (by kernel_rfl)) (by kernel_rfl)
end Go.Proofs.Ytfkefelgjbfkjaa.Am
