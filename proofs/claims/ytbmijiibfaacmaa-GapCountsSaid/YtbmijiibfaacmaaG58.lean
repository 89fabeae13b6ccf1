/- Function 58, plain, and that the program computes it. Printed by gen.py. -/
import Derived.Test.YtbmijiibfaacmaaTy
import Derived.Test.YtbmijiibfaacmaaG71
set_option maxRecDepth 100000
set_option linter.unusedVariables false
namespace Go.Proofs.Ytbmijiibfaacmaa.Am
open Go

/-! 58 galley/galleyref1.Begins -/
noncomputable def X58 : Fx Int := ⟨Try.prog, cx, Try.f58, fun r => .int .i64 r, 0, fun _ => H0, cxTi, cxOrd⟩
noncomputable def g58p0 : Pt := nav [0] (bodyAt Try.f58)
noncomputable def g58p1 : Pt := nav [0, 0, 0, 0, 0] g58p0
noncomputable def g58p2 : Pt := nav [0, 0] g58p1
noncomputable def g58p3 : Pt := nav [1, 0] g58p2
noncomputable def g58p4 : Pt := nav [2, 0] g58p2
noncomputable def g58p6 : Pt := nav [0, 0] g58p4
noncomputable def g58p7 : Pt := nav [1, 0] g58p6
noncomputable def g58p8 : Pt := nav [2, 0] g58p6
noncomputable def g58p9 : Pt := nav [0, 0] g58p8
noncomputable def g58p10 : Pt := nav [1, 0] g58p9
noncomputable def g58p11 : Pt := nav [2, 0, 0] g58p9
noncomputable def g58 (k : Nat) (a0 : Int) : Option Int :=
  jn (fun (z1 : Bool) => if z1 then (some (1 : Int)) else (jn (fun (z2 : Bool) => if z2 then (some (2 : Int)) else ((g71 k a0).bind fun x0_1 => if x0_1 then (some (3 : Int)) else (some (0 : Int)))) (fun j2 => if (decide (65 ≤ a0)) then (if (decide (a0 ≤ 90)) then (j2 true) else (j2 (decide (a0 = 95)))) else (j2 (decide (a0 = 95)))))) (fun j1 => if (decide (97 ≤ a0)) then (j1 (decide (a0 ≤ 122))) else (j1 false))
theorem g58_ok (k : Nat) (a0 : Int) (r : Int) (h : g58 k a0 = some r) : PureOk Try.prog 58 [.int .u8 a0] (.int .i64 r) := by
  refine pure_of X58 (fun _ => rfl) Try.func58 (by decide +kernel) (by kernel_rfl) (t := g58 k a0) ?_ h
  unfold g58
  refine ok_env (env' := [(0, .int .u8 a0)]) (by kernel_rfl) ?_
  refine ok_run 11 (p' := (atN 3 (ctl1 g58p1))) (env' := [(6, .bool (decide (97 ≤ a0))), (5, .bool (decide (97 ≤ a0))), (4, .int .u8 a0), (2, .int .i64 0), (0, .int .u8 a0)]) (H' := (mkH [])) (by kernel_rfl) ?_
  refine ok_jn (f := fun (z1 : Bool) => if z1 then (some (1 : Int)) else (jn (fun (z2 : Bool) => if z2 then (some (2 : Int)) else ((g71 k a0).bind fun x0_1 => if x0_1 then (some (3 : Int)) else (some (0 : Int)))) (fun j2 => if (decide (65 ≤ a0)) then (if (decide (a0 ≤ 90)) then (j2 true) else (j2 (decide (a0 = 95)))) else (j2 (decide (a0 = 95)))))) g58p2 (fun (z1 : Bool) => [(0, .int .u8 a0), (3, .bool z1)]) (fun (z1 : Bool) => (mkH [])) (fun z1 => ?_) (fun j1 hj1 => ?_)
  · refine ok_split 3 (b := z1) (by kernel_rfl) (fun hb => ?_) (fun hb => ?_)
    · refine ok_run 6 (p' := .fin) (env' := [(2, .int .i64 1), (3, .bool true), (0, .int .u8 a0), (3, .bool z1)]) (H' := (mkH [])) (by kernel_rfl) ?_
      exact ok_ret (r := (1 : Int)) (xs := [.int .i64 1]) (v := .int .i64 1) (by kernel_rfl) (by kernel_rfl) (by kernel_rfl) (.pures (by kernel_rfl)) (by kernel_rfl)
    · refine ok_run 6 (p' := (atN 3 (ctl1 g58p4))) (env' := [(13, .bool (decide (65 ≤ a0))), (12, .bool (decide (65 ≤ a0))), (11, .int .u8 a0), (3, .bool false), (0, .int .u8 a0), (3, .bool z1)]) (H' := (mkH [])) (by kernel_rfl) ?_
      refine ok_jn (f := fun (z2 : Bool) => if z2 then (some (2 : Int)) else ((g71 k a0).bind fun x0_1 => if x0_1 then (some (3 : Int)) else (some (0 : Int)))) g58p6 (fun (z2 : Bool) => [(0, .int .u8 a0), (10, .bool z2)]) (fun (z2 : Bool) => (mkH [])) (fun z2 => ?_) (fun j2 hj2 => ?_)
      · refine ok_split 10 (b := z2) (by kernel_rfl) (fun hb => ?_) (fun hb => ?_)
        · refine ok_run 6 (p' := .fin) (env' := [(2, .int .i64 2), (10, .bool true), (0, .int .u8 a0), (10, .bool z2)]) (H' := (mkH [])) (by kernel_rfl) ?_
          exact ok_ret (r := (2 : Int)) (xs := [.int .i64 2]) (v := .int .i64 2) (by kernel_rfl) (by kernel_rfl) (by kernel_rfl) (.pures (by kernel_rfl)) (by kernel_rfl)
        · refine ok_run 4 (p' := (atN 1 (ctl1 g58p8))) (env' := [(22, .int .u8 a0), (10, .bool false), (0, .int .u8 a0), (10, .bool z2)]) (H' := (mkH [])) (by kernel_rfl) ?_
          refine ok_call (fun (x0_1 : Bool) => .bool x0_1) (atN 2 (ctl1 g58p8)) (fun x0_1 => [(23, .bool x0_1), (22, .int .u8 a0), (10, .bool false), (0, .int .u8 a0), (10, .bool z2)]) (fi := 71) (args := [.int .u8 a0]) (by kernel_rfl) (by kernel_rfl) (fun _ => by kernel_rfl) (fun r h => g71_ok k a0 r h) (fun _ => by kernel_rfl) (fun x0_1 hx0_1 => ?_)
          refine ok_run 2 (p' := g58p9) (env' := [(21, .bool x0_1), (23, .bool x0_1), (22, .int .u8 a0), (10, .bool false), (0, .int .u8 a0), (10, .bool z2)]) (H' := (mkH [])) (by kernel_rfl) ?_
          refine ok_split 21 (b := x0_1) (by kernel_rfl) (fun hb => ?_) (fun hb => ?_)
          · refine ok_run 6 (p' := .fin) (env' := [(2, .int .i64 3), (21, .bool true), (21, .bool x0_1), (23, .bool x0_1), (22, .int .u8 a0), (10, .bool false), (0, .int .u8 a0), (10, .bool z2)]) (H' := (mkH [])) (by kernel_rfl) ?_
            exact ok_ret (r := (3 : Int)) (xs := [.int .i64 3]) (v := .int .i64 3) (by kernel_rfl) (by kernel_rfl) (by kernel_rfl) (.pures (by kernel_rfl)) (by kernel_rfl)
          · refine ok_run 7 (p' := .fin) (env' := [(2, .int .i64 0), (21, .bool false), (21, .bool x0_1), (23, .bool x0_1), (22, .int .u8 a0), (10, .bool false), (0, .int .u8 a0), (10, .bool z2)]) (H' := (mkH [])) (by kernel_rfl) ?_
            exact ok_ret (r := (0 : Int)) (xs := [.int .i64 0]) (v := .int .i64 0) (by kernel_rfl) (by kernel_rfl) (by kernel_rfl) (.pures (by kernel_rfl)) (by kernel_rfl)
      · refine ok_split 13 (b := decide (65 ≤ a0)) (by kernel_rfl) (fun hb => ?_) (fun hb => ?_)
        · refine ok_run 4 (p' := (atN 7 (ctl1 g58p4))) (env' := [(17, .bool (decide (a0 ≤ 90))), (16, .bool (decide (a0 ≤ 90))), (15, .bool (decide (a0 ≤ 90))), (14, .int .u8 a0), (13, .bool true), (13, .bool (decide (65 ≤ a0))), (12, .bool (decide (65 ≤ a0))), (11, .int .u8 a0), (3, .bool false), (0, .int .u8 a0), (3, .bool z1)]) (H' := (mkH [])) (by kernel_rfl) ?_
          refine ok_split 17 (b := decide (a0 ≤ 90)) (by kernel_rfl) (fun hb => ?_) (fun hb => ?_)
          · refine ok_run 5 (p' := g58p6) (env' := [(10, .bool true), (20, .bool true), (19, .tuple []), (18, .tuple []), (17, .bool true), (17, .bool (decide (a0 ≤ 90))), (16, .bool (decide (a0 ≤ 90))), (15, .bool (decide (a0 ≤ 90))), (14, .int .u8 a0), (13, .bool true), (13, .bool (decide (65 ≤ a0))), (12, .bool (decide (65 ≤ a0))), (11, .int .u8 a0), (3, .bool false), (0, .int .u8 a0), (3, .bool z1)]) (H' := (mkH [])) (by kernel_rfl) ?_
            refine ok_keep [0, 10] (env' := [(0, .int .u8 a0), (10, .bool true)]) (by kernel_rfl) ?_
            exact hj2 true
          · refine ok_run 5 (p' := g58p6) (env' := [(10, .bool (decide (a0 = 95))), (20, .bool (decide (a0 = 95))), (19, .bool (decide (a0 = 95))), (18, .int .u8 a0), (17, .bool false), (17, .bool (decide (a0 ≤ 90))), (16, .bool (decide (a0 ≤ 90))), (15, .bool (decide (a0 ≤ 90))), (14, .int .u8 a0), (13, .bool true), (13, .bool (decide (65 ≤ a0))), (12, .bool (decide (65 ≤ a0))), (11, .int .u8 a0), (3, .bool false), (0, .int .u8 a0), (3, .bool z1)]) (H' := (mkH [])) (by kernel_rfl) ?_
            refine ok_keep [0, 10] (env' := [(0, .int .u8 a0), (10, .bool (decide (a0 = 95)))]) (by kernel_rfl) ?_
            exact hj2 (decide (a0 = 95))
        · refine ok_run 9 (p' := g58p6) (env' := [(10, .bool (decide (a0 = 95))), (20, .bool (decide (a0 = 95))), (19, .bool (decide (a0 = 95))), (18, .int .u8 a0), (17, .bool false), (16, .bool false), (15, .tuple []), (14, .tuple []), (13, .bool false), (13, .bool (decide (65 ≤ a0))), (12, .bool (decide (65 ≤ a0))), (11, .int .u8 a0), (3, .bool false), (0, .int .u8 a0), (3, .bool z1)]) (H' := (mkH [])) (by kernel_rfl) ?_
          refine ok_keep [0, 10] (env' := [(0, .int .u8 a0), (10, .bool (decide (a0 = 95)))]) (by kernel_rfl) ?_
          exact hj2 (decide (a0 = 95))
  · refine ok_split 6 (b := decide (97 ≤ a0)) (by kernel_rfl) (fun hb => ?_) (fun hb => ?_)
    · refine ok_run 5 (p' := g58p2) (env' := [(3, .bool (decide (a0 ≤ 122))), (9, .bool (decide (a0 ≤ 122))), (8, .bool (decide (a0 ≤ 122))), (7, .int .u8 a0), (6, .bool true), (6, .bool (decide (97 ≤ a0))), (5, .bool (decide (97 ≤ a0))), (4, .int .u8 a0), (2, .int .i64 0), (0, .int .u8 a0)]) (H' := (mkH [])) (by kernel_rfl) ?_
      refine ok_keep [0, 3] (env' := [(0, .int .u8 a0), (3, .bool (decide (a0 ≤ 122)))]) (by kernel_rfl) ?_
      exact hj1 (decide (a0 ≤ 122))
    · refine ok_run 5 (p' := g58p2) (env' := [(3, .bool false), (9, .bool false), (8, .tuple []), (7, .tuple []), (6, .bool false), (6, .bool (decide (97 ≤ a0))), (5, .bool (decide (97 ≤ a0))), (4, .int .u8 a0), (2, .int .i64 0), (0, .int .u8 a0)]) (H' := (mkH [])) (by kernel_rfl) ?_
      refine ok_keep [0, 3] (env' := [(0, .int .u8 a0), (3, .bool false)]) (by kernel_rfl) ?_
      exact hj1 false
end Go.Proofs.Ytbmijiibfaacmaa.Am
