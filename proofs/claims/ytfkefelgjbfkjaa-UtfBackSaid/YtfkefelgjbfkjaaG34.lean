/- Function 34, plain, and that the program computes it. Printed by gen.py. -/
import Derived.Test.YtfkefelgjbfkjaaTy
set_option maxRecDepth 100000
set_option linter.unusedVariables false
namespace Go.Proofs.Ytfkefelgjbfkjaa.Am
open Go

/-! 34 galley/galleyref1.Point -/
noncomputable def X34 : Fx Bool := ⟨Try.prog, cx, Try.f34, fun r => .bool r, 0, fun _ => H0, cxTi, cxOrd⟩
noncomputable def g34p0 : Pt := nav [0] (bodyAt Try.f34)
noncomputable def g34p1 : Pt := nav [0, 0, 0] g34p0
noncomputable def g34 (k : Nat) (a0 : Int) : Option Bool :=
  if (decide (0 ≤ a0)) then (if (decide (a0 ≤ 1114111)) then (if (decide (a0 < 55296)) then (some true) else (some (decide (57343 < a0)))) else (some false)) else (some false)
theorem g34_ok (k : Nat) (a0 : Int) (r : Bool) (h : g34 k a0 = some r) : PureOk Try.prog 34 [.int .i64 a0] (.bool r) := by
  refine pure_of X34 (fun _ => rfl) Try.func34 (by decide +kernel) (by kernel_rfl) (t := g34 k a0) ?_ h
  unfold g34
  refine ok_env (env' := [(0, .int .i64 a0)]) (by kernel_rfl) ?_
  let E1 : Env := [(5, .bool (decide (0 ≤ a0))), (4, .bool (decide (0 ≤ a0))), (3, .int .i64 a0), (2, .bool false), (0, .int .i64 a0)]
  refine ok_run 9 (p' := (atN 3 (ctl1 g34p1))) (env' := E1) (H' := (mkH [])) (by kernel_rfl) ?_
  refine ok_split 5 (b := decide (0 ≤ a0)) (by kernel_rfl) (fun hb => ?_) (fun hb => ?_)
  · let E2 : Env := ((9, .bool (decide (a0 ≤ 1114111))) :: (8, .bool (decide (a0 ≤ 1114111))) :: (7, .bool (decide (a0 ≤ 1114111))) :: (6, .int .i64 a0) :: (5, .bool true) :: E1)
    refine ok_run 4 (p' := (atN 7 (ctl1 g34p1))) (env' := E2) (H' := (mkH [])) (by kernel_rfl) ?_
    refine ok_split 9 (b := decide (a0 ≤ 1114111)) (by kernel_rfl) (fun hb => ?_) (fun hb => ?_)
    · refine ok_run 3 (p' := (atN 10 (ctl1 g34p1))) (env' := ((12, .bool (decide (a0 < 55296))) :: (11, .bool (decide (a0 < 55296))) :: (10, .int .i64 a0) :: (9, .bool true) :: E2)) (H' := (mkH [])) (by kernel_rfl) ?_
      refine ok_split 12 (b := decide (a0 < 55296)) (by kernel_rfl) (fun hb => ?_) (fun hb => ?_)
      · let E3 : Env := ((2, .bool true) :: (16, .bool true) :: (15, .bool true) :: (14, .tuple []) :: (13, .tuple []) :: (12, .bool true) :: (12, .bool (decide (a0 < 55296))) :: (11, .bool (decide (a0 < 55296))) :: (10, .int .i64 a0) :: (9, .bool true) :: E2)
        refine ok_run 7 (p' := .fin) (env' := E3) (H' := (mkH [])) (by kernel_rfl) ?_
        exact ok_ret (r := true) (xs := [.bool true]) (v := .bool true) (by kernel_rfl) (by kernel_rfl) (by kernel_rfl) (.pures (by kernel_rfl)) (by kernel_rfl)
      · let E4 : Env := ((2, .bool (decide (57343 < a0))) :: (16, .bool (decide (57343 < a0))) :: (15, .bool (decide (57343 < a0))) :: (14, .bool (decide (57343 < a0))) :: (13, .int .i64 a0) :: (12, .bool false) :: (12, .bool (decide (a0 < 55296))) :: (11, .bool (decide (a0 < 55296))) :: (10, .int .i64 a0) :: (9, .bool true) :: E2)
        refine ok_run 7 (p' := .fin) (env' := E4) (H' := (mkH [])) (by kernel_rfl) ?_
        exact ok_ret (r := (decide (57343 < a0))) (xs := [.bool (decide (57343 < a0))]) (v := .bool (decide (57343 < a0))) (by kernel_rfl) (by kernel_rfl) (by kernel_rfl) (.pures (by kernel_rfl)) (by kernel_rfl)
    · let E5 : Env := ((2, .bool false) :: (16, .bool false) :: (15, .tuple []) :: (14, .tuple []) :: (13, .tuple []) :: (12, .tuple []) :: (11, .tuple []) :: (10, .tuple []) :: (9, .bool false) :: E2)
      refine ok_run 10 (p' := .fin) (env' := E5) (H' := (mkH [])) (by kernel_rfl) ?_
      exact ok_ret (r := false) (xs := [.bool false]) (v := .bool false) (by kernel_rfl) (by kernel_rfl) (by kernel_rfl) (.pures (by kernel_rfl)) (by kernel_rfl)
  · let E6 : Env := ((2, .bool false) :: (16, .bool false) :: (15, .tuple []) :: (14, .tuple []) :: (13, .tuple []) :: (12, .tuple []) :: (11, .tuple []) :: (10, .tuple []) :: (9, .bool false) :: (8, .bool false) :: (7, .tuple []) :: (6, .tuple []) :: (5, .bool false) :: E1)
    refine ok_run 14 (p' := .fin) (env' := E6) (H' := (mkH [])) (by kernel_rfl) ?_
    exact ok_ret (r := false) (xs := [.bool false]) (v := .bool false) (by kernel_rfl) (by kernel_rfl) (by kernel_rfl) (.pures (by kernel_rfl)) (by kernel_rfl)
end Go.Proofs.Ytfkefelgjbfkjaa.Am
