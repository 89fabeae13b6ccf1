/- Function 74, plain, and that the program computes it. Printed by gen.py. -/
import Derived.Test.YtbmijiibfaacmaaTy
import Derived.Test.YtbmijiibfaacmaaG64
import Derived.Test.YtbmijiibfaacmaaG71
set_option maxRecDepth 100000
set_option linter.unusedVariables false
namespace Go.Proofs.Ytbmijiibfaacmaa.Am
open Go

/-! 74 galley/galleyref1.Inner -/
noncomputable def X74 : Fx Bool := ⟨Try.prog, cx, Try.f74, fun r => .bool r, 0, fun _ => H0, cxTi, cxOrd⟩
noncomputable def g74p0 : Pt := nav [0] (bodyAt Try.f74)
noncomputable def g74p1 : Pt := nav [0, 0, 0] g74p0
noncomputable def g74 (k : Nat) (a0 : Int) : Option Bool :=
  (g64 k a0).bind fun x0_1 => if x0_1 then (some true) else ((g71 k a0).bind fun x0_4 => if x0_4 then (some true) else (if (decide (a0 = 95)) then (some true) else (some (decide (a0 = 64)))))
theorem g74_ok (k : Nat) (a0 : Int) (r : Bool) (h : g74 k a0 = some r) : PureOk Try.prog 74 [.int .u8 a0] (.bool r) := by
  refine pure_of X74 (fun _ => rfl) Try.func74 (by decide +kernel) (by kernel_rfl) (t := g74 k a0) ?_ h
  unfold g74
  refine ok_env (env' := [(0, .int .u8 a0)]) (by kernel_rfl) ?_
  refine ok_run 7 (p' := (atN 1 (ctl1 g74p1))) (env' := [(3, .int .u8 a0), (2, .bool false), (0, .int .u8 a0)]) (H' := (mkH [])) (by kernel_rfl) ?_
  refine ok_call (fun (x0_1 : Bool) => .bool x0_1) (atN 2 (ctl1 g74p1)) (fun x0_1 => [(4, .bool x0_1), (3, .int .u8 a0), (2, .bool false), (0, .int .u8 a0)]) (fi := 64) (args := [.int .u8 a0]) (by kernel_rfl) (by kernel_rfl) (fun _ => by kernel_rfl) (fun r h => g64_ok k a0 r h) (fun _ => by kernel_rfl) (fun x0_1 hx0_1 => ?_)
  refine ok_run 1 (p' := (atN 3 (ctl1 g74p1))) (env' := [(5, .bool x0_1), (4, .bool x0_1), (3, .int .u8 a0), (2, .bool false), (0, .int .u8 a0)]) (H' := (mkH [])) (by kernel_rfl) ?_
  refine ok_split 5 (b := x0_1) (by kernel_rfl) (fun hb => ?_) (fun hb => ?_)
  · refine ok_run 14 (p' := .fin) (env' := [(2, .bool true), (16, .bool true), (15, .tuple []), (14, .tuple []), (13, .bool true), (12, .bool true), (11, .tuple []), (10, .tuple []), (9, .bool true), (8, .bool true), (7, .tuple []), (6, .tuple []), (5, .bool true), (5, .bool x0_1), (4, .bool x0_1), (3, .int .u8 a0), (2, .bool false), (0, .int .u8 a0)]) (H' := (mkH [])) (by kernel_rfl) ?_
    exact ok_ret (r := true) (xs := [.bool true]) (v := .bool true) (by kernel_rfl) (by kernel_rfl) (by kernel_rfl) (.pures (by kernel_rfl)) (by kernel_rfl)
  · refine ok_run 1 (p' := (atN 4 (ctl1 g74p1))) (env' := [(6, .int .u8 a0), (5, .bool false), (5, .bool x0_1), (4, .bool x0_1), (3, .int .u8 a0), (2, .bool false), (0, .int .u8 a0)]) (H' := (mkH [])) (by kernel_rfl) ?_
    refine ok_call (fun (x0_4 : Bool) => .bool x0_4) (atN 5 (ctl1 g74p1)) (fun x0_4 => [(7, .bool x0_4), (6, .int .u8 a0), (5, .bool false), (5, .bool x0_1), (4, .bool x0_1), (3, .int .u8 a0), (2, .bool false), (0, .int .u8 a0)]) (fi := 71) (args := [.int .u8 a0]) (by kernel_rfl) (by kernel_rfl) (fun _ => by kernel_rfl) (fun r h => g71_ok k a0 r h) (fun _ => by kernel_rfl) (fun x0_4 hx0_4 => ?_)
    refine ok_run 2 (p' := (atN 7 (ctl1 g74p1))) (env' := [(9, .bool x0_4), (8, .bool x0_4), (7, .bool x0_4), (6, .int .u8 a0), (5, .bool false), (5, .bool x0_1), (4, .bool x0_1), (3, .int .u8 a0), (2, .bool false), (0, .int .u8 a0)]) (H' := (mkH [])) (by kernel_rfl) ?_
    refine ok_split 9 (b := x0_4) (by kernel_rfl) (fun hb => ?_) (fun hb => ?_)
    · refine ok_run 10 (p' := .fin) (env' := [(2, .bool true), (16, .bool true), (15, .tuple []), (14, .tuple []), (13, .bool true), (12, .bool true), (11, .tuple []), (10, .tuple []), (9, .bool true), (9, .bool x0_4), (8, .bool x0_4), (7, .bool x0_4), (6, .int .u8 a0), (5, .bool false), (5, .bool x0_1), (4, .bool x0_1), (3, .int .u8 a0), (2, .bool false), (0, .int .u8 a0)]) (H' := (mkH [])) (by kernel_rfl) ?_
      exact ok_ret (r := true) (xs := [.bool true]) (v := .bool true) (by kernel_rfl) (by kernel_rfl) (by kernel_rfl) (.pures (by kernel_rfl)) (by kernel_rfl)
    · refine ok_run 4 (p' := (atN 11 (ctl1 g74p1))) (env' := [(13, .bool (decide (a0 = 95))), (12, .bool (decide (a0 = 95))), (11, .bool (decide (a0 = 95))), (10, .int .u8 a0), (9, .bool false), (9, .bool x0_4), (8, .bool x0_4), (7, .bool x0_4), (6, .int .u8 a0), (5, .bool false), (5, .bool x0_1), (4, .bool x0_1), (3, .int .u8 a0), (2, .bool false), (0, .int .u8 a0)]) (H' := (mkH [])) (by kernel_rfl) ?_
      refine ok_split 13 (b := decide (a0 = 95)) (by kernel_rfl) (fun hb => ?_) (fun hb => ?_)
      · refine ok_run 6 (p' := .fin) (env' := [(2, .bool true), (16, .bool true), (15, .tuple []), (14, .tuple []), (13, .bool true), (13, .bool (decide (a0 = 95))), (12, .bool (decide (a0 = 95))), (11, .bool (decide (a0 = 95))), (10, .int .u8 a0), (9, .bool false), (9, .bool x0_4), (8, .bool x0_4), (7, .bool x0_4), (6, .int .u8 a0), (5, .bool false), (5, .bool x0_1), (4, .bool x0_1), (3, .int .u8 a0), (2, .bool false), (0, .int .u8 a0)]) (H' := (mkH [])) (by kernel_rfl) ?_
        exact ok_ret (r := true) (xs := [.bool true]) (v := .bool true) (by kernel_rfl) (by kernel_rfl) (by kernel_rfl) (.pures (by kernel_rfl)) (by kernel_rfl)
      · refine ok_run 6 (p' := .fin) (env' := [(2, .bool (decide (a0 = 64))), (16, .bool (decide (a0 = 64))), (15, .bool (decide (a0 = 64))), (14, .int .u8 a0), (13, .bool false), (13, .bool (decide (a0 = 95))), (12, .bool (decide (a0 = 95))), (11, .bool (decide (a0 = 95))), (10, .int .u8 a0), (9, .bool false), (9, .bool x0_4), (8, .bool x0_4), (7, .bool x0_4), (6, .int .u8 a0), (5, .bool false), (5, .bool x0_1), (4, .bool x0_1), (3, .int .u8 a0), (2, .bool false), (0, .int .u8 a0)]) (H' := (mkH [])) (by kernel_rfl) ?_
        exact ok_ret (r := (decide (a0 = 64))) (xs := [.bool (decide (a0 = 64))]) (v := .bool (decide (a0 = 64))) (by kernel_rfl) (by kernel_rfl) (by kernel_rfl) (.pures (by kernel_rfl)) (by kernel_rfl)
end Go.Proofs.Ytbmijiibfaacmaa.Am
