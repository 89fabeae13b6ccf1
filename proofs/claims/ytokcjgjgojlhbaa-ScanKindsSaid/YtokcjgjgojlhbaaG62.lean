/- Function 62, plain, and that the program computes it. Printed by gen.py. -/
import Derived.Test.YtokcjgjgojlhbaaTy
set_option maxRecDepth 100000
set_option linter.unusedVariables false
namespace Go.Proofs.Ytokcjgjgojlhbaa.Am
open Go

/-! 62 galley/lit.control -/
noncomputable def X62 : Fx (Int × Int) := ⟨Try.prog, cx, Try.f62, fun r => .tuple [.int .i64 r.1, .int .i64 r.2], 0, fun _ => H0, cxTi, cxOrd⟩
noncomputable def g62p0 : Pt := nav [0] (bodyAt Try.f62)
noncomputable def g62p1 : Pt := nav [0, 0, 0, 0] g62p0
noncomputable def g62p2 : Pt := nav [0, 0] g62p1
noncomputable def g62p3 : Pt := nav [1, 0] g62p2
noncomputable def g62p4 : Pt := nav [2, 0, 0] g62p2
noncomputable def g62p6 : Pt := nav [0, 0, 0, 0] g62p4
noncomputable def g62p7 : Pt := nav [0, 0] g62p6
noncomputable def g62p8 : Pt := nav [1, 0] g62p7
noncomputable def g62p9 : Pt := nav [2, 0, 0] g62p7
noncomputable def g62 (k : Nat) (a0 : (List Nat)) (a1 : Int) : Option (Int × Int) :=
  if (decide ((a0.length : Int) ≤ fwrap .i64 (a1 + 2))) then (some (((-1) : Int), (0 : Int))) else ((nthS a0 (fwrap .i64 (a1 + 2))).bind fun x0_3 => jn (fun (z1 : Bool) => if z1 then (some (((-1) : Int), (0 : Int))) else (some (fwrap .i64 (andI .u8 x0_3 31), (3 : Int)))) (fun j1 => if (decide (x0_3 < 64)) then (j1 true) else (if (decide (95 < x0_3)) then (if (decide (x0_3 < 97)) then (j1 true) else (j1 (decide (122 < x0_3)))) else (j1 false))))
theorem g62_ok (k : Nat) (a0 : (List Nat)) (a1 : Int) (r : (Int × Int)) (h : g62 k a0 a1 = some r) : PureOk Try.prog 62 [.str a0, .int .i64 a1] (.tuple [.int .i64 r.1, .int .i64 r.2]) := by
  refine pure_of X62 (fun _ => rfl) Try.func62 (by decide +kernel) (by kernel_rfl) (t := g62 k a0 a1) ?_ h
  unfold g62
  refine ok_env (env' := [(0, .str a0), (1, .int .i64 a1)]) (by kernel_rfl) ?_
  let E1 : Env := [(11, .bool (decide ((a0.length : Int) ≤ fwrap .i64 (a1 + 2)))), (10, .int .i64 (a0.length : Int)), (9, .str a0), (8, .int .i64 (fwrap .i64 (a1 + 2))), (7, .int .i64 a1), (5, .int .i64 0), (4, .int .i64 0), (0, .str a0), (1, .int .i64 a1)]
  refine ok_run 14 (p' := g62p2) (env' := E1) (H' := (mkH [])) (by kernel_rfl) ?_
  refine ok_split 11 (b := decide ((a0.length : Int) ≤ fwrap .i64 (a1 + 2))) (by kernel_rfl) (fun hb => ?_) (fun hb => ?_)
  · refine ok_run 7 (p' := .fin) (env' := ((5, .int .i64 0) :: (4, .int .i64 (-1)) :: (11, .bool true) :: E1)) (H' := (mkH [])) (by kernel_rfl) ?_
    exact ok_ret (r := (((-1) : Int), (0 : Int))) (xs := [.int .i64 (-1), .int .i64 0]) (v := .tuple [.int .i64 (-1), .int .i64 0]) (by kernel_rfl) (by kernel_rfl) (by kernel_rfl) (.pures (by kernel_rfl)) (by kernel_rfl)
  · refine ok_run 7 (p' := (atN 3 (ctl1 g62p4))) (env' := ((14, .int .i64 (fwrap .i64 (a1 + 2))) :: (13, .int .i64 a1) :: (12, .str a0) :: (11, .bool false) :: E1)) (H' := (mkH [])) (by kernel_rfl) ?_
    refine ok_chk (fun (x0_3 : Int) => (.int .u8 x0_3, (mkH []))) (atN 4 (ctl1 g62p4)) (fun x0_3 => ((15, .int .u8 x0_3) :: (14, .int .i64 (fwrap .i64 (a1 + 2))) :: (13, .int .i64 a1) :: (12, .str a0) :: (11, .bool false) :: E1)) (idxH (by kernel_rfl)) (fun _ => by kernel_rfl) (fun x0_3 hx0_3 => ?_)
    let E2 : Env := ((6, .int .u8 x0_3) :: (15, .int .u8 x0_3) :: (14, .int .i64 (fwrap .i64 (a1 + 2))) :: (13, .int .i64 a1) :: (12, .str a0) :: (11, .bool false) :: E1)
    refine ok_run 4 (p' := g62p6) (env' := E2) (H' := (mkH [])) (by kernel_rfl) ?_
    refine ok_keep [6] (env' := [(6, .int .u8 x0_3)]) (by kernel_rfl) ?_
    refine ok_run 4 (p' := (atN 3 (ctl1 g62p6))) (env' := [(18, .bool (decide (x0_3 < 64))), (17, .bool (decide (x0_3 < 64))), (16, .int .u8 x0_3), (6, .int .u8 x0_3)]) (H' := (mkH [])) (by kernel_rfl) ?_
    refine ok_jn (f := fun (z1 : Bool) => if z1 then (some (((-1) : Int), (0 : Int))) else (some (fwrap .i64 (andI .u8 x0_3 31), (3 : Int)))) g62p7 (fun (z1 : Bool) => [(6, .int .u8 x0_3), (29, .bool z1)]) (fun (z1 : Bool) => (mkH [])) (fun z1 => ?_) (fun j1 hj1 => ?_)
    · refine ok_split 29 (b := z1) (by kernel_rfl) (fun hb => ?_) (fun hb => ?_)
      · let E3 : Env := [(5, .int .i64 0), (4, .int .i64 (-1)), (29, .bool true), (6, .int .u8 x0_3), (29, .bool z1)]
        refine ok_run 7 (p' := .fin) (env' := E3) (H' := (mkH [])) (by kernel_rfl) ?_
        exact ok_ret (r := (((-1) : Int), (0 : Int))) (xs := [.int .i64 (-1), .int .i64 0]) (v := .tuple [.int .i64 (-1), .int .i64 0]) (by kernel_rfl) (by kernel_rfl) (by kernel_rfl) (.pures (by kernel_rfl)) (by kernel_rfl)
      · let E4 : Env := [(5, .int .i64 3), (4, .int .i64 (fwrap .i64 (andI .u8 x0_3 31))), (32, .int .i64 (fwrap .i64 (andI .u8 x0_3 31))), (31, .int .u8 (andI .u8 x0_3 31)), (30, .int .u8 x0_3), (29, .bool false), (6, .int .u8 x0_3), (29, .bool z1)]
        refine ok_run 11 (p' := .fin) (env' := E4) (H' := (mkH [])) (by kernel_rfl) ?_
        exact ok_ret (r := (fwrap .i64 (andI .u8 x0_3 31), (3 : Int))) (xs := [.int .i64 (fwrap .i64 (andI .u8 x0_3 31)), .int .i64 3]) (v := .tuple [.int .i64 (fwrap .i64 (andI .u8 x0_3 31)), .int .i64 3]) (by kernel_rfl) (by kernel_rfl) (by kernel_rfl) (.pures (by kernel_rfl)) (by kernel_rfl)
    · refine ok_split 18 (b := decide (x0_3 < 64)) (by kernel_rfl) (fun hb => ?_) (fun hb => ?_)
      · let E5 : Env := [(29, .bool true), (28, .tuple []), (27, .tuple []), (26, .tuple []), (25, .tuple []), (24, .tuple []), (23, .tuple []), (22, .tuple []), (21, .tuple []), (20, .tuple []), (19, .tuple []), (18, .bool true), (18, .bool (decide (x0_3 < 64))), (17, .bool (decide (x0_3 < 64))), (16, .int .u8 x0_3), (6, .int .u8 x0_3)]
        refine ok_run 12 (p' := g62p7) (env' := E5) (H' := (mkH [])) (by kernel_rfl) ?_
        refine ok_keep [6, 29] (env' := [(6, .int .u8 x0_3), (29, .bool true)]) (by kernel_rfl) ?_
        exact hj1 true
      · let E6 : Env := [(21, .bool (decide (95 < x0_3))), (20, .bool (decide (95 < x0_3))), (19, .int .u8 x0_3), (18, .bool false), (18, .bool (decide (x0_3 < 64))), (17, .bool (decide (x0_3 < 64))), (16, .int .u8 x0_3), (6, .int .u8 x0_3)]
        refine ok_run 3 (p' := (atN 6 (ctl1 g62p6))) (env' := E6) (H' := (mkH [])) (by kernel_rfl) ?_
        refine ok_split 21 (b := decide (95 < x0_3)) (by kernel_rfl) (fun hb => ?_) (fun hb => ?_)
        · refine ok_run 3 (p' := (atN 9 (ctl1 g62p6))) (env' := ((24, .bool (decide (x0_3 < 97))) :: (23, .bool (decide (x0_3 < 97))) :: (22, .int .u8 x0_3) :: (21, .bool true) :: E6)) (H' := (mkH [])) (by kernel_rfl) ?_
          refine ok_split 24 (b := decide (x0_3 < 97)) (by kernel_rfl) (fun hb => ?_) (fun hb => ?_)
          · let E7 : Env := ((29, .bool true) :: (28, .bool true) :: (27, .bool true) :: (26, .tuple []) :: (25, .tuple []) :: (24, .bool true) :: (24, .bool (decide (x0_3 < 97))) :: (23, .bool (decide (x0_3 < 97))) :: (22, .int .u8 x0_3) :: (21, .bool true) :: E6)
            refine ok_run 6 (p' := g62p7) (env' := E7) (H' := (mkH [])) (by kernel_rfl) ?_
            refine ok_keep [6, 29] (env' := [(6, .int .u8 x0_3), (29, .bool true)]) (by kernel_rfl) ?_
            exact hj1 true
          · let E8 : Env := ((29, .bool (decide (122 < x0_3))) :: (28, .bool (decide (122 < x0_3))) :: (27, .bool (decide (122 < x0_3))) :: (26, .bool (decide (122 < x0_3))) :: (25, .int .u8 x0_3) :: (24, .bool false) :: (24, .bool (decide (x0_3 < 97))) :: (23, .bool (decide (x0_3 < 97))) :: (22, .int .u8 x0_3) :: (21, .bool true) :: E6)
            refine ok_run 6 (p' := g62p7) (env' := E8) (H' := (mkH [])) (by kernel_rfl) ?_
            refine ok_keep [6, 29] (env' := [(6, .int .u8 x0_3), (29, .bool (decide (122 < x0_3)))]) (by kernel_rfl) ?_
            exact hj1 (decide (122 < x0_3))
        · let E9 : Env := ((29, .bool false) :: (28, .bool false) :: (27, .tuple []) :: (26, .tuple []) :: (25, .tuple []) :: (24, .tuple []) :: (23, .tuple []) :: (22, .tuple []) :: (21, .bool false) :: E6)
          refine ok_run 9 (p' := g62p7) (env' := E9) (H' := (mkH [])) (by kernel_rfl) ?_
          refine ok_keep [6, 29] (env' := [(6, .int .u8 x0_3), (29, .bool false)]) (by kernel_rfl) ?_
          exact hj1 false
end Go.Proofs.Ytokcjgjgojlhbaa.Am
