/- Function 30, plain, and that the program computes it. Printed by gen.py. -/
import Derived.Test.YtokcjgjgojlhbaaTy
set_option maxRecDepth 100000
set_option linter.unusedVariables false
namespace Go.Proofs.Ytokcjgjgojlhbaa.Am
open Go

/-! 30 galley/scan.blank -/
noncomputable def X30 : Fx Bool := ⟨Try.prog, cx, Try.f30, fun r => .bool r, 0, fun _ => H0, cxTi, cxOrd⟩
noncomputable def g30p0 : Pt := nav [0] (bodyAt Try.f30)
noncomputable def g30p1 : Pt := nav [0, 0, 0] g30p0
noncomputable def g30 (k : Nat) (a0 : Int) : Option Bool :=
  if (decide (a0 = 32)) then (some true) else (if (decide (a0 = 9)) then (some true) else (if (decide (a0 = 10)) then (some true) else (some (decide (a0 = 13)))))
theorem g30_ok (k : Nat) (a0 : Int) (r : Bool) (h : g30 k a0 = some r) : PureOk Try.prog 30 [.int .u8 a0] (.bool r) := by
  refine pure_of X30 (fun _ => rfl) Try.func30 (by decide +kernel) (by kernel_rfl) (t := g30 k a0) ?_ h
  unfold g30
  refine ok_env (env' := [(0, .int .u8 a0)]) (by kernel_rfl) ?_
  let E1 : Env := [(5, .bool (decide (a0 = 32))), (4, .bool (decide (a0 = 32))), (3, .int .u8 a0), (2, .bool false), (0, .int .u8 a0)]
  refine ok_run 9 (p' := (atN 3 (ctl1 g30p1))) (env' := E1) (H' := (mkH [])) (by kernel_rfl) ?_
  refine ok_split 5 (b := decide (a0 = 32)) (by kernel_rfl) (fun hb => ?_) (fun hb => ?_)
  · let E2 : Env := ((2, .bool true) :: (16, .bool true) :: (15, .tuple []) :: (14, .tuple []) :: (13, .bool true) :: (12, .bool true) :: (11, .tuple []) :: (10, .tuple []) :: (9, .bool true) :: (8, .bool true) :: (7, .tuple []) :: (6, .tuple []) :: (5, .bool true) :: E1)
    refine ok_run 14 (p' := .fin) (env' := E2) (H' := (mkH [])) (by kernel_rfl) ?_
    exact ok_ret (r := true) (xs := [.bool true]) (v := .bool true) (by kernel_rfl) (by kernel_rfl) (by kernel_rfl) (.pures (by kernel_rfl)) (by kernel_rfl)
  · let E3 : Env := ((9, .bool (decide (a0 = 9))) :: (8, .bool (decide (a0 = 9))) :: (7, .bool (decide (a0 = 9))) :: (6, .int .u8 a0) :: (5, .bool false) :: E1)
    refine ok_run 4 (p' := (atN 7 (ctl1 g30p1))) (env' := E3) (H' := (mkH [])) (by kernel_rfl) ?_
    refine ok_split 9 (b := decide (a0 = 9)) (by kernel_rfl) (fun hb => ?_) (fun hb => ?_)
    · let E4 : Env := ((2, .bool true) :: (16, .bool true) :: (15, .tuple []) :: (14, .tuple []) :: (13, .bool true) :: (12, .bool true) :: (11, .tuple []) :: (10, .tuple []) :: (9, .bool true) :: E3)
      refine ok_run 10 (p' := .fin) (env' := E4) (H' := (mkH [])) (by kernel_rfl) ?_
      exact ok_ret (r := true) (xs := [.bool true]) (v := .bool true) (by kernel_rfl) (by kernel_rfl) (by kernel_rfl) (.pures (by kernel_rfl)) (by kernel_rfl)
    · let E5 : Env := ((13, .bool (decide (a0 = 10))) :: (12, .bool (decide (a0 = 10))) :: (11, .bool (decide (a0 = 10))) :: (10, .int .u8 a0) :: (9, .bool false) :: E3)
      refine ok_run 4 (p' := (atN 11 (ctl1 g30p1))) (env' := E5) (H' := (mkH [])) (by kernel_rfl) ?_
      refine ok_split 13 (b := decide (a0 = 10)) (by kernel_rfl) (fun hb => ?_) (fun hb => ?_)
      · let E6 : Env := ((2, .bool true) :: (16, .bool true) :: (15, .tuple []) :: (14, .tuple []) :: (13, .bool true) :: E5)
        refine ok_run 6 (p' := .fin) (env' := E6) (H' := (mkH [])) (by kernel_rfl) ?_
        exact ok_ret (r := true) (xs := [.bool true]) (v := .bool true) (by kernel_rfl) (by kernel_rfl) (by kernel_rfl) (.pures (by kernel_rfl)) (by kernel_rfl)
      · let E7 : Env := ((2, .bool (decide (a0 = 13))) :: (16, .bool (decide (a0 = 13))) :: (15, .bool (decide (a0 = 13))) :: (14, .int .u8 a0) :: (13, .bool false) :: E5)
        refine ok_run 6 (p' := .fin) (env' := E7) (H' := (mkH [])) (by kernel_rfl) ?_
        exact ok_ret (r := (decide (a0 = 13))) (xs := [.bool (decide (a0 = 13))]) (v := .bool (decide (a0 = 13))) (by kernel_rfl) (by kernel_rfl) (by kernel_rfl) (.pures (by kernel_rfl)) (by kernel_rfl)
end Go.Proofs.Ytokcjgjgojlhbaa.Am
