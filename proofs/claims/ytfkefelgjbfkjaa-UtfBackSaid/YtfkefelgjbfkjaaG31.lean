/- Function 31, plain, and that the program computes it. Printed by gen.py. -/
import Derived.Test.YtfkefelgjbfkjaaTy
set_option maxRecDepth 100000
set_option linter.unusedVariables false
namespace Go.Proofs.Ytfkefelgjbfkjaa.Am
open Go

/-! 31 galley/utf.lead -/
noncomputable def X31 : Fx (Int × Int) := ⟨Try.prog, cx, Try.f31, fun r => .tuple [.int .i64 r.1, .int .i64 r.2], 0, fun _ => H0, cxTi, cxOrd⟩
noncomputable def g31p0 : Pt := nav [0] (bodyAt Try.f31)
noncomputable def g31p1 : Pt := nav [0, 0, 0, 0, 0] g31p0
noncomputable def g31p2 : Pt := nav [0, 0] g31p1
noncomputable def g31p3 : Pt := nav [1, 0] g31p2
noncomputable def g31p4 : Pt := nav [2, 0] g31p2
noncomputable def g31p6 : Pt := nav [0, 0] g31p4
noncomputable def g31p7 : Pt := nav [1, 0] g31p6
noncomputable def g31p8 : Pt := nav [2, 0] g31p6
noncomputable def g31p9 : Pt := nav [0, 0] g31p8
noncomputable def g31p10 : Pt := nav [1, 0] g31p9
noncomputable def g31p11 : Pt := nav [2, 0] g31p9
noncomputable def g31p12 : Pt := nav [0, 0] g31p11
noncomputable def g31p13 : Pt := nav [1, 0] g31p12
noncomputable def g31p14 : Pt := nav [2, 0, 0] g31p12
noncomputable def g31 (k : Nat) (a0 : Int) : Option (Int × Int) :=
  if (decide (a0 < 128)) then (some ((1 : Int), fwrap .i64 a0)) else (if (decide (shrC a0 5 = 6)) then (some ((2 : Int), fwrap .i64 (andI .u8 a0 31))) else (if (decide (shrC a0 4 = 14)) then (some ((3 : Int), fwrap .i64 (andI .u8 a0 15))) else (if (decide (shrC a0 3 = 30)) then (some ((4 : Int), fwrap .i64 (andI .u8 a0 7))) else (some ((0 : Int), (0 : Int))))))
theorem g31_ok (k : Nat) (a0 : Int) (r : (Int × Int)) (h : g31 k a0 = some r) : PureOk Try.prog 31 [.int .u8 a0] (.tuple [.int .i64 r.1, .int .i64 r.2]) := by
  refine pure_of X31 (fun _ => rfl) Try.func31 (by decide +kernel) (by kernel_rfl) (t := g31 k a0) ?_ h
  unfold g31
  refine ok_env (env' := [(0, .int .u8 a0)]) (by kernel_rfl) ?_
  let E1 : Env := [(4, .bool (decide (a0 < 128))), (6, .bool (decide (a0 < 128))), (5, .int .u8 a0), (3, .int .i64 0), (2, .int .i64 0), (0, .int .u8 a0)]
  refine ok_run 13 (p' := g31p2) (env' := E1) (H' := (mkH [])) (by kernel_rfl) ?_
  refine ok_split 4 (b := decide (a0 < 128)) (by kernel_rfl) (fun hb => ?_) (fun hb => ?_)
  · let E2 : Env := ((3, .int .i64 (fwrap .i64 a0)) :: (2, .int .i64 1) :: (8, .int .i64 (fwrap .i64 a0)) :: (7, .int .u8 a0) :: (4, .bool true) :: E1)
    refine ok_run 9 (p' := .fin) (env' := E2) (H' := (mkH [])) (by kernel_rfl) ?_
    exact ok_ret (r := ((1 : Int), fwrap .i64 a0)) (xs := [.int .i64 1, .int .i64 (fwrap .i64 a0)]) (v := .tuple [.int .i64 1, .int .i64 (fwrap .i64 a0)]) (by kernel_rfl) (by kernel_rfl) (by kernel_rfl) (.pures (by kernel_rfl)) (by kernel_rfl)
  · let E3 : Env := ((9, .bool (decide (shrC a0 5 = 6))) :: (12, .bool (decide (shrC a0 5 = 6))) :: (11, .int .u8 (shrC a0 5)) :: (10, .int .u8 a0) :: (4, .bool false) :: E1)
    refine ok_run 8 (p' := g31p6) (env' := E3) (H' := (mkH [])) (by kernel_rfl) ?_
    refine ok_keep [0, 9] (env' := [(0, .int .u8 a0), (9, .bool (decide (shrC a0 5 = 6)))]) (by kernel_rfl) ?_
    refine ok_split 9 (b := decide (shrC a0 5 = 6)) (by kernel_rfl) (fun hb => ?_) (fun hb => ?_)
    · let E4 : Env := [(3, .int .i64 (fwrap .i64 (andI .u8 a0 31))), (2, .int .i64 2), (15, .int .i64 (fwrap .i64 (andI .u8 a0 31))), (14, .int .u8 (andI .u8 a0 31)), (13, .int .u8 a0), (9, .bool true), (0, .int .u8 a0), (9, .bool (decide (shrC a0 5 = 6)))]
      refine ok_run 10 (p' := .fin) (env' := E4) (H' := (mkH [])) (by kernel_rfl) ?_
      exact ok_ret (r := ((2 : Int), fwrap .i64 (andI .u8 a0 31))) (xs := [.int .i64 2, .int .i64 (fwrap .i64 (andI .u8 a0 31))]) (v := .tuple [.int .i64 2, .int .i64 (fwrap .i64 (andI .u8 a0 31))]) (by kernel_rfl) (by kernel_rfl) (by kernel_rfl) (.pures (by kernel_rfl)) (by kernel_rfl)
    · let E5 : Env := [(16, .bool (decide (shrC a0 4 = 14))), (19, .bool (decide (shrC a0 4 = 14))), (18, .int .u8 (shrC a0 4)), (17, .int .u8 a0), (9, .bool false), (0, .int .u8 a0), (9, .bool (decide (shrC a0 5 = 6)))]
      refine ok_run 8 (p' := g31p9) (env' := E5) (H' := (mkH [])) (by kernel_rfl) ?_
      refine ok_split 16 (b := decide (shrC a0 4 = 14)) (by kernel_rfl) (fun hb => ?_) (fun hb => ?_)
      · let E6 : Env := ((3, .int .i64 (fwrap .i64 (andI .u8 a0 15))) :: (2, .int .i64 3) :: (22, .int .i64 (fwrap .i64 (andI .u8 a0 15))) :: (21, .int .u8 (andI .u8 a0 15)) :: (20, .int .u8 a0) :: (16, .bool true) :: E5)
        refine ok_run 10 (p' := .fin) (env' := E6) (H' := (mkH [])) (by kernel_rfl) ?_
        exact ok_ret (r := ((3 : Int), fwrap .i64 (andI .u8 a0 15))) (xs := [.int .i64 3, .int .i64 (fwrap .i64 (andI .u8 a0 15))]) (v := .tuple [.int .i64 3, .int .i64 (fwrap .i64 (andI .u8 a0 15))]) (by kernel_rfl) (by kernel_rfl) (by kernel_rfl) (.pures (by kernel_rfl)) (by kernel_rfl)
      · let E7 : Env := ((23, .bool (decide (shrC a0 3 = 30))) :: (26, .bool (decide (shrC a0 3 = 30))) :: (25, .int .u8 (shrC a0 3)) :: (24, .int .u8 a0) :: (16, .bool false) :: E5)
        refine ok_run 8 (p' := g31p12) (env' := E7) (H' := (mkH [])) (by kernel_rfl) ?_
        refine ok_keep [0, 23] (env' := [(0, .int .u8 a0), (23, .bool (decide (shrC a0 3 = 30)))]) (by kernel_rfl) ?_
        refine ok_split 23 (b := decide (shrC a0 3 = 30)) (by kernel_rfl) (fun hb => ?_) (fun hb => ?_)
        · let E8 : Env := [(3, .int .i64 (fwrap .i64 (andI .u8 a0 7))), (2, .int .i64 4), (29, .int .i64 (fwrap .i64 (andI .u8 a0 7))), (28, .int .u8 (andI .u8 a0 7)), (27, .int .u8 a0), (23, .bool true), (0, .int .u8 a0), (23, .bool (decide (shrC a0 3 = 30)))]
          refine ok_run 10 (p' := .fin) (env' := E8) (H' := (mkH [])) (by kernel_rfl) ?_
          exact ok_ret (r := ((4 : Int), fwrap .i64 (andI .u8 a0 7))) (xs := [.int .i64 4, .int .i64 (fwrap .i64 (andI .u8 a0 7))]) (v := .tuple [.int .i64 4, .int .i64 (fwrap .i64 (andI .u8 a0 7))]) (by kernel_rfl) (by kernel_rfl) (by kernel_rfl) (.pures (by kernel_rfl)) (by kernel_rfl)
        · let E9 : Env := [(3, .int .i64 0), (2, .int .i64 0), (23, .bool false), (0, .int .u8 a0), (23, .bool (decide (shrC a0 3 = 30)))]
          refine ok_run 8 (p' := .fin) (env' := E9) (H' := (mkH [])) (by kernel_rfl) ?_
          exact ok_ret (r := ((0 : Int), (0 : Int))) (xs := [.int .i64 0, .int .i64 0]) (v := .tuple [.int .i64 0, .int .i64 0]) (by kernel_rfl) (by kernel_rfl) (by kernel_rfl) (.pures (by kernel_rfl)) (by kernel_rfl)
end Go.Proofs.Ytfkefelgjbfkjaa.Am
