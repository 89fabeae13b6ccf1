/- Function 38, plain, and that the program computes it. Printed by gen.py. -/
import Derived.Test.YtokcjgjgojlhbaaTy
import Derived.Test.YtokcjgjgojlhbaaG55
import Derived.Test.YtokcjgjgojlhbaaG56
import Derived.Test.YtokcjgjgojlhbaaG57
import Derived.Test.YtokcjgjgojlhbaaG58
set_option maxRecDepth 100000
set_option linter.unusedVariables false
namespace Go.Proofs.Ytokcjgjgojlhbaa.Am
open Go

/-! 38 galley/scan.number -/
noncomputable def X38 : Fx (Int × Int) := ⟨Try.prog, cx, Try.f38, fun r => .tuple [.int .i64 r.1, .int .i64 r.2], 0, fun _ => H0, cxTi, cxOrd⟩
noncomputable def g38p0 : Pt := nav [0] (bodyAt Try.f38)
noncomputable def g38p1 : Pt := nav [0, 0, 0] g38p0
noncomputable def g38p2 : Pt := nav [0, 0, 0, 0] g38p1
noncomputable def g38p3 : Pt := nav [0, 0] g38p2
noncomputable def g38p4 : Pt := nav [1, 0] g38p3
noncomputable def g38p5 : Pt := nav [2, 0, 0, 0] g38p3
noncomputable def g38p6 : Pt := nav [0, 0, 0] g38p4
noncomputable def g38p7 : Pt := nav [0, 0] g38p5
noncomputable def g38p8 : Pt := nav [0, 0, 0] g38p6
noncomputable def g38p9 : Pt := nav [1, 0] g38p7
noncomputable def g38p10 : Pt := nav [2, 0, 0] g38p7
noncomputable def g38p11 : Pt := nav [0, 0] g38p8
noncomputable def g38p13 : Pt := nav [1, 0] g38p11
noncomputable def g38 (k : Nat) (a0 : (List Nat)) : Option (Int × Int) :=
  (g55 k a0).bind fun x0_1 => jn (fun (z6 : Int × Int) => jn (fun (z7 : Bool) => if z7 then (some ((0 : Int), (0 : Int))) else (some (z6.2, z6.1))) (fun j7 => if (decide (z6.2 < (a0.length : Int))) then ((nthS a0 z6.2).bind fun x4_7 => (g58 k x4_7).bind fun x4_8 => j7 x4_8) else (j7 false))) (fun j6 => if (decide (x0_1 = 0)) then ((g56 k a0).bind fun x1_1 => (g57 k a0).bind fun x2_1 => jn (fun (z5 : Bool) => if z5 then (some ((0 : Int), (0 : Int))) else (j6 (3, x1_1))) (fun j5 => if (decide (x1_1 < (a0.length : Int))) then ((nthS a0 x1_1).bind fun x3_7 => if (decide (x3_7 = 35)) then (if (decide (x2_1.1 = 0)) then (j5 true) else (j5 (decide (x1_1 < x2_1.1)))) else (j5 false)) else (j5 false))) else (j6 (4, x0_1)))
theorem g38_ok (k : Nat) (a0 : (List Nat)) (r : (Int × Int)) (h : g38 k a0 = some r) : PureOk Try.prog 38 [.str a0] (.tuple [.int .i64 r.1, .int .i64 r.2]) := by
  refine pure_of X38 (fun _ => rfl) Try.func38 (by decide +kernel) (by kernel_rfl) (t := g38 k a0) ?_ h
  unfold g38
  refine ok_env (env' := [(0, .str a0)]) (by kernel_rfl) ?_
  refine ok_run 8 (p' := (atN 1 (ctl1 g38p1))) (env' := [(8, .str a0), (3, .int .i64 0), (2, .int .i64 0), (0, .str a0)]) (H' := (mkH [])) (by kernel_rfl) ?_
  refine ok_call (fun (x0_1 : Int) => .int .i64 x0_1) (atN 2 (ctl1 g38p1)) (fun x0_1 => [(9, .int .i64 x0_1), (8, .str a0), (3, .int .i64 0), (2, .int .i64 0), (0, .str a0)]) (fi := 55) (args := [.str a0]) (by kernel_rfl) (by kernel_rfl) (fun _ => by kernel_rfl) (fun r h => g55_ok k a0 r h) (fun _ => by kernel_rfl) (fun x0_1 hx0_1 => ?_)
  let E1 : Env := [(11, .bool (decide (x0_1 = 0))), (10, .int .i64 x0_1), (5, .int .i64 x0_1), (4, .int .i64 4), (9, .int .i64 x0_1), (8, .str a0), (3, .int .i64 0), (2, .int .i64 0), (0, .str a0)]
  refine ok_run 9 (p' := g38p3) (env' := E1) (H' := (mkH [])) (by kernel_rfl) ?_
  refine ok_jn (f := fun (z6 : Int × Int) => jn (fun (z7 : Bool) => if z7 then (some ((0 : Int), (0 : Int))) else (some (z6.2, z6.1))) (fun j7 => if (decide (z6.2 < (a0.length : Int))) then ((nthS a0 z6.2).bind fun x4_7 => (g58 k x4_7).bind fun x4_8 => j7 x4_8) else (j7 false))) g38p5 (fun (z6 : Int × Int) => [(0, .str a0), (4, .int .i64 z6.1), (5, .int .i64 z6.2)]) (fun (z6 : Int × Int) => (mkH [])) (fun z6 => ?_) (fun j6 hj6 => ?_)
  · let E2 : Env := [(42, .bool (decide (z6.2 < (a0.length : Int)))), (41, .bool (decide (z6.2 < (a0.length : Int)))), (40, .int .i64 (a0.length : Int)), (39, .str a0), (38, .int .i64 z6.2), (0, .str a0), (4, .int .i64 z6.1), (5, .int .i64 z6.2)]
    refine ok_run 6 (p' := (atN 5 (ctl1 g38p5))) (env' := E2) (H' := (mkH [])) (by kernel_rfl) ?_
    refine ok_jn (f := fun (z7 : Bool) => if z7 then (some ((0 : Int), (0 : Int))) else (some (z6.2, z6.1))) g38p7 (fun (z7 : Bool) => [(4, .int .i64 z6.1), (5, .int .i64 z6.2), (47, .bool z7)]) (fun (z7 : Bool) => (mkH [])) (fun z7 => ?_) (fun j7 hj7 => ?_)
    · refine ok_split 47 (b := z7) (by kernel_rfl) (fun hb => ?_) (fun hb => ?_)
      · let E3 : Env := [(3, .int .i64 0), (2, .int .i64 0), (47, .bool true), (4, .int .i64 z6.1), (5, .int .i64 z6.2), (47, .bool z7)]
        refine ok_run 7 (p' := .fin) (env' := E3) (H' := (mkH [])) (by kernel_rfl) ?_
        exact ok_ret (r := ((0 : Int), (0 : Int))) (xs := [.int .i64 0, .int .i64 0]) (v := .tuple [.int .i64 0, .int .i64 0]) (by kernel_rfl) (by kernel_rfl) (by kernel_rfl) (.pures (by kernel_rfl)) (by kernel_rfl)
      · let E4 : Env := [(3, .int .i64 z6.1), (2, .int .i64 z6.2), (49, .int .i64 z6.1), (48, .int .i64 z6.2), (47, .bool false), (4, .int .i64 z6.1), (5, .int .i64 z6.2), (47, .bool z7)]
        refine ok_run 10 (p' := .fin) (env' := E4) (H' := (mkH [])) (by kernel_rfl) ?_
        exact ok_ret (r := (z6.2, z6.1)) (xs := [.int .i64 z6.2, .int .i64 z6.1]) (v := .tuple [.int .i64 z6.2, .int .i64 z6.1]) (by kernel_rfl) (by kernel_rfl) (by kernel_rfl) (.pures (by kernel_rfl)) (by kernel_rfl)
    · refine ok_split 42 (b := decide (z6.2 < (a0.length : Int))) (by kernel_rfl) (fun hb => ?_) (fun hb => ?_)
      · refine ok_run 2 (p' := (atN 7 (ctl1 g38p5))) (env' := ((44, .int .i64 z6.2) :: (43, .str a0) :: (42, .bool true) :: E2)) (H' := (mkH [])) (by kernel_rfl) ?_
        refine ok_chk (fun (x4_7 : Int) => (.int .u8 x4_7, (mkH []))) (atN 8 (ctl1 g38p5)) (fun x4_7 => ((45, .int .u8 x4_7) :: (44, .int .i64 z6.2) :: (43, .str a0) :: (42, .bool true) :: E2)) (idxH (by kernel_rfl)) (fun _ => by kernel_rfl) (fun x4_7 hx4_7 => ?_)
        refine ok_call (fun (x4_8 : Bool) => .bool x4_8) (atN 9 (ctl1 g38p5)) (fun x4_8 => ((46, .bool x4_8) :: (45, .int .u8 x4_7) :: (44, .int .i64 z6.2) :: (43, .str a0) :: (42, .bool true) :: E2)) (fi := 58) (args := [.int .u8 x4_7]) (by kernel_rfl) (by kernel_rfl) (fun _ => by kernel_rfl) (fun r h => g58_ok k x4_7 r h) (fun _ => by kernel_rfl) (fun x4_8 hx4_8 => ?_)
        let E5 : Env := ((47, .bool x4_8) :: (46, .bool x4_8) :: (45, .int .u8 x4_7) :: (44, .int .i64 z6.2) :: (43, .str a0) :: (42, .bool true) :: E2)
        refine ok_run 2 (p' := g38p7) (env' := E5) (H' := (mkH [])) (by kernel_rfl) ?_
        refine ok_keep [4, 5, 47] (env' := [(4, .int .i64 z6.1), (5, .int .i64 z6.2), (47, .bool x4_8)]) (by kernel_rfl) ?_
        exact hj7 x4_8
      · let E6 : Env := ((47, .bool false) :: (46, .tuple []) :: (45, .tuple []) :: (44, .tuple []) :: (43, .tuple []) :: (42, .bool false) :: E2)
        refine ok_run 6 (p' := g38p7) (env' := E6) (H' := (mkH [])) (by kernel_rfl) ?_
        refine ok_keep [4, 5, 47] (env' := [(4, .int .i64 z6.1), (5, .int .i64 z6.2), (47, .bool false)]) (by kernel_rfl) ?_
        exact hj7 false
  · refine ok_split 11 (b := decide (x0_1 = 0)) (by kernel_rfl) (fun hb => ?_) (fun hb => ?_)
    · refine ok_run 4 (p' := (atN 1 (ctl1 g38p4))) (env' := ((12, .str a0) :: (11, .bool true) :: E1)) (H' := (mkH [])) (by kernel_rfl) ?_
      refine ok_call (fun (x1_1 : Int) => .int .i64 x1_1) (atN 2 (ctl1 g38p4)) (fun x1_1 => ((13, .int .i64 x1_1) :: (12, .str a0) :: (11, .bool true) :: E1)) (fi := 56) (args := [.str a0]) (by kernel_rfl) (by kernel_rfl) (fun _ => by kernel_rfl) (fun r h => g56_ok k a0 r h) (fun _ => by kernel_rfl) (fun x1_1 hx1_1 => ?_)
      let E7 : Env := ((5, .int .i64 x1_1) :: (4, .int .i64 3) :: (13, .int .i64 x1_1) :: (12, .str a0) :: (11, .bool true) :: E1)
      refine ok_run 4 (p' := g38p6) (env' := E7) (H' := (mkH [])) (by kernel_rfl) ?_
      refine ok_keep [0, 4, 5] (env' := [(0, .str a0), (4, .int .i64 3), (5, .int .i64 x1_1)]) (by kernel_rfl) ?_
      refine ok_run 2 (p' := (atN 1 (ctl1 g38p6))) (env' := [(15, .str a0), (0, .str a0), (4, .int .i64 3), (5, .int .i64 x1_1)]) (H' := (mkH [])) (by kernel_rfl) ?_
      refine ok_call (fun (x2_1 : (Int × Int)) => .tuple [.int .i64 x2_1.1, .int .i64 x2_1.2]) (atN 2 (ctl1 g38p6)) (fun x2_1 => [(16, .tuple [.int .i64 x2_1.1, .int .i64 x2_1.2]), (15, .str a0), (0, .str a0), (4, .int .i64 3), (5, .int .i64 x1_1)]) (fi := 57) (args := [.str a0]) (by kernel_rfl) (by kernel_rfl) (fun _ => by kernel_rfl) (fun r h => g57_ok k a0 r h) (fun _ => by kernel_rfl) (fun x2_1 hx2_1 => ?_)
      let E8 : Env := [(23, .bool (decide (x1_1 < (a0.length : Int)))), (22, .bool (decide (x1_1 < (a0.length : Int)))), (21, .int .i64 (a0.length : Int)), (20, .str a0), (19, .int .i64 x1_1), (7, .int .i64 x2_1.2), (6, .int .i64 x2_1.1), (18, .int .i64 x2_1.2), (17, .int .i64 x2_1.1), (14, .tuple [.int .i64 x2_1.1, .int .i64 x2_1.2]), (16, .tuple [.int .i64 x2_1.1, .int .i64 x2_1.2]), (15, .str a0), (0, .str a0), (4, .int .i64 3), (5, .int .i64 x1_1)]
      refine ok_run 13 (p' := (atN 5 (ctl1 g38p8))) (env' := E8) (H' := (mkH [])) (by kernel_rfl) ?_
      refine ok_jn (f := fun (z5 : Bool) => if z5 then (some ((0 : Int), (0 : Int))) else (j6 (3, x1_1))) g38p11 (fun (z5 : Bool) => [(0, .str a0), (4, .int .i64 3), (5, .int .i64 x1_1), (37, .bool z5)]) (fun (z5 : Bool) => (mkH [])) (fun z5 => ?_) (fun j5 hj5 => ?_)
      · refine ok_split 37 (b := z5) (by kernel_rfl) (fun hb => ?_) (fun hb => ?_)
        · let E9 : Env := [(3, .int .i64 0), (2, .int .i64 0), (37, .bool true), (0, .str a0), (4, .int .i64 3), (5, .int .i64 x1_1), (37, .bool z5)]
          refine ok_run 7 (p' := .fin) (env' := E9) (H' := (mkH [])) (by kernel_rfl) ?_
          exact ok_ret (r := ((0 : Int), (0 : Int))) (xs := [.int .i64 0, .int .i64 0]) (v := .tuple [.int .i64 0, .int .i64 0]) (by kernel_rfl) (by kernel_rfl) (by kernel_rfl) (.pures (by kernel_rfl)) (by kernel_rfl)
        · let E10 : Env := [(37, .bool false), (0, .str a0), (4, .int .i64 3), (5, .int .i64 x1_1), (37, .bool z5)]
          refine ok_run 4 (p' := g38p5) (env' := E10) (H' := (mkH [])) (by kernel_rfl) ?_
          refine ok_keep [0, 4, 5] (env' := [(0, .str a0), (4, .int .i64 3), (5, .int .i64 x1_1)]) (by kernel_rfl) ?_
          exact hj6 (3, x1_1)
      · refine ok_split 23 (b := decide (x1_1 < (a0.length : Int))) (by kernel_rfl) (fun hb => ?_) (fun hb => ?_)
        · refine ok_run 2 (p' := (atN 7 (ctl1 g38p8))) (env' := ((25, .int .i64 x1_1) :: (24, .str a0) :: (23, .bool true) :: E8)) (H' := (mkH [])) (by kernel_rfl) ?_
          refine ok_chk (fun (x3_7 : Int) => (.int .u8 x3_7, (mkH []))) (atN 8 (ctl1 g38p8)) (fun x3_7 => ((26, .int .u8 x3_7) :: (25, .int .i64 x1_1) :: (24, .str a0) :: (23, .bool true) :: E8)) (idxH (by kernel_rfl)) (fun _ => by kernel_rfl) (fun x3_7 hx3_7 => ?_)
          let E11 : Env := ((29, .bool (decide (x3_7 = 35))) :: (28, .bool (decide (x3_7 = 35))) :: (27, .bool (decide (x3_7 = 35))) :: (26, .int .u8 x3_7) :: (25, .int .i64 x1_1) :: (24, .str a0) :: (23, .bool true) :: E8)
          refine ok_run 3 (p' := (atN 11 (ctl1 g38p8))) (env' := E11) (H' := (mkH [])) (by kernel_rfl) ?_
          refine ok_split 29 (b := decide (x3_7 = 35)) (by kernel_rfl) (fun hb => ?_) (fun hb => ?_)
          · refine ok_run 3 (p' := (atN 14 (ctl1 g38p8))) (env' := ((32, .bool (decide (x2_1.1 = 0))) :: (31, .bool (decide (x2_1.1 = 0))) :: (30, .int .i64 x2_1.1) :: (29, .bool true) :: E11)) (H' := (mkH [])) (by kernel_rfl) ?_
            refine ok_split 32 (b := decide (x2_1.1 = 0)) (by kernel_rfl) (fun hb => ?_) (fun hb => ?_)
            · let E12 : Env := ((37, .bool true) :: (36, .bool true) :: (35, .tuple []) :: (34, .tuple []) :: (33, .tuple []) :: (32, .bool true) :: (32, .bool (decide (x2_1.1 = 0))) :: (31, .bool (decide (x2_1.1 = 0))) :: (30, .int .i64 x2_1.1) :: (29, .bool true) :: E11)
              refine ok_run 6 (p' := g38p11) (env' := E12) (H' := (mkH [])) (by kernel_rfl) ?_
              refine ok_keep [0, 4, 5, 37] (env' := [(0, .str a0), (4, .int .i64 3), (5, .int .i64 x1_1), (37, .bool true)]) (by kernel_rfl) ?_
              exact hj5 true
            · let E13 : Env := ((37, .bool (decide (x1_1 < x2_1.1))) :: (36, .bool (decide (x1_1 < x2_1.1))) :: (35, .bool (decide (x1_1 < x2_1.1))) :: (34, .int .i64 x2_1.1) :: (33, .int .i64 x1_1) :: (32, .bool false) :: (32, .bool (decide (x2_1.1 = 0))) :: (31, .bool (decide (x2_1.1 = 0))) :: (30, .int .i64 x2_1.1) :: (29, .bool true) :: E11)
              refine ok_run 6 (p' := g38p11) (env' := E13) (H' := (mkH [])) (by kernel_rfl) ?_
              refine ok_keep [0, 4, 5, 37] (env' := [(0, .str a0), (4, .int .i64 3), (5, .int .i64 x1_1), (37, .bool (decide (x1_1 < x2_1.1)))]) (by kernel_rfl) ?_
              exact hj5 (decide (x1_1 < x2_1.1))
          · let E14 : Env := ((37, .bool false) :: (36, .tuple []) :: (35, .tuple []) :: (34, .tuple []) :: (33, .tuple []) :: (32, .tuple []) :: (31, .tuple []) :: (30, .tuple []) :: (29, .bool false) :: E11)
            refine ok_run 9 (p' := g38p11) (env' := E14) (H' := (mkH [])) (by kernel_rfl) ?_
            refine ok_keep [0, 4, 5, 37] (env' := [(0, .str a0), (4, .int .i64 3), (5, .int .i64 x1_1), (37, .bool false)]) (by kernel_rfl) ?_
            exact hj5 false
        · let E15 : Env := ((37, .bool false) :: (36, .tuple []) :: (35, .tuple []) :: (34, .tuple []) :: (33, .tuple []) :: (32, .tuple []) :: (31, .tuple []) :: (30, .tuple []) :: (29, .bool false) :: (28, .bool false) :: (27, .tuple []) :: (26, .tuple []) :: (25, .tuple []) :: (24, .tuple []) :: (23, .bool false) :: E8)
          refine ok_run 15 (p' := g38p11) (env' := E15) (H' := (mkH [])) (by kernel_rfl) ?_
          refine ok_keep [0, 4, 5, 37] (env' := [(0, .str a0), (4, .int .i64 3), (5, .int .i64 x1_1), (37, .bool false)]) (by kernel_rfl) ?_
          exact hj5 false
    · refine ok_run 4 (p' := g38p5) (env' := ((11, .bool false) :: E1)) (H' := (mkH [])) (by kernel_rfl) ?_
      refine ok_keep [0, 4, 5] (env' := [(0, .str a0), (4, .int .i64 4), (5, .int .i64 x0_1)]) (by kernel_rfl) ?_
      exact hj6 (4, x0_1)
end Go.Proofs.Ytokcjgjgojlhbaa.Am
