/- Function 35, plain, and that the program computes it. Printed by gen.py. -/
import Derived.Test.YtokcjgjgojlhbaaTy
import Derived.Test.YtokcjgjgojlhbaaG51
import Derived.Test.YtokcjgjgojlhbaaG52
set_option maxRecDepth 100000
set_option linter.unusedVariables false
namespace Go.Proofs.Ytokcjgjgojlhbaa.Am
open Go

/-! 35 galley/scan.char -/
noncomputable def X35 : Fx Int := ⟨Try.prog, cx, Try.f35, fun r => .int .i64 r, 0, fun _ => H0, cxTi, cxOrd⟩
noncomputable def g35p0 : Pt := nav [0] (bodyAt Try.f35)
noncomputable def g35p1 : Pt := nav [0, 0, 0, 0] g35p0
noncomputable def g35p2 : Pt := nav [0, 0] g35p1
noncomputable def g35p3 : Pt := nav [1, 0, 0] g35p2
noncomputable def g35p4 : Pt := nav [2, 0, 0, 0] g35p2
noncomputable def g35p5 : Pt := nav [0, 0, 0] g35p3
noncomputable def g35p6 : Pt := nav [0, 0, 0] g35p4
noncomputable def g35p7 : Pt := nav [0, 0] g35p5
noncomputable def g35p8 : Pt := nav [0, 0] g35p6
noncomputable def g35p9 : Pt := nav [1, 0] g35p7
noncomputable def g35p10 : Pt := nav [2, 0, 0] g35p7
noncomputable def g35p11 : Pt := nav [1, 0] g35p8
noncomputable def g35p12 : Pt := nav [2, 0, 0] g35p8
noncomputable def g35 (k : Nat) (a0 : (List Nat)) : Option Int :=
  jn (fun (z4 : Bool) => if z4 then ((g52 k a0 (1 : Int)).bind fun x1_1 => if (decide (0 < x1_1.2)) then (some (fwrap .i64 (x1_1.2 + 1))) else (some (0 : Int))) else ((g51 k a0 (1 : Int)).bind fun x2_1 => jn (fun (z5 : Bool) => if z5 then (some (fwrap .i64 (x2_1 + 1))) else (some (0 : Int))) (fun j5 => if (decide (0 < x2_1)) then ((nthS a0 1).bind fun x3_4 => j5 (!decide (x3_4 = 32))) else (j5 false)))) (fun j4 => if (decide (1 < (a0.length : Int))) then ((nthS a0 1).bind fun x0_5 => j4 (decide (x0_5 = 92))) else (j4 false))
theorem g35_ok (k : Nat) (a0 : (List Nat)) (r : Int) (h : g35 k a0 = some r) : PureOk Try.prog 35 [.str a0] (.int .i64 r) := by
  refine pure_of X35 (fun _ => rfl) Try.func35 (by decide +kernel) (by kernel_rfl) (t := g35 k a0) ?_ h
  unfold g35
  refine ok_env (env' := [(0, .str a0)]) (by kernel_rfl) ?_
  let E1 : Env := [(9, .bool (decide (1 < (a0.length : Int)))), (8, .bool (decide (1 < (a0.length : Int)))), (7, .int .i64 (a0.length : Int)), (6, .str a0), (2, .int .i64 0), (0, .str a0)]
  refine ok_run 11 (p' := (atN 4 (ctl1 g35p1))) (env' := E1) (H' := (mkH [])) (by kernel_rfl) ?_
  refine ok_jn (f := fun (z4 : Bool) => if z4 then ((g52 k a0 (1 : Int)).bind fun x1_1 => if (decide (0 < x1_1.2)) then (some (fwrap .i64 (x1_1.2 + 1))) else (some (0 : Int))) else ((g51 k a0 (1 : Int)).bind fun x2_1 => jn (fun (z5 : Bool) => if z5 then (some (fwrap .i64 (x2_1 + 1))) else (some (0 : Int))) (fun j5 => if (decide (0 < x2_1)) then ((nthS a0 1).bind fun x3_4 => j5 (!decide (x3_4 = 32))) else (j5 false)))) g35p2 (fun (z4 : Bool) => [(0, .str a0), (13, .bool z4)]) (fun (z4 : Bool) => (mkH [])) (fun z4 => ?_) (fun j4 hj4 => ?_)
  · refine ok_split 13 (b := z4) (by kernel_rfl) (fun hb => ?_) (fun hb => ?_)
    · refine ok_run 5 (p' := (atN 1 (ctl1 g35p3))) (env' := [(15, .str a0), (13, .bool true), (0, .str a0), (13, .bool z4)]) (H' := (mkH [])) (by kernel_rfl) ?_
      refine ok_call (fun (x1_1 : (Int × Int)) => .tuple [.int .i64 x1_1.1, .int .i64 x1_1.2]) (atN 2 (ctl1 g35p3)) (fun x1_1 => [(16, .tuple [.int .i64 x1_1.1, .int .i64 x1_1.2]), (15, .str a0), (13, .bool true), (0, .str a0), (13, .bool z4)]) (fi := 52) (args := [.str a0, .int .i64 1]) (by kernel_rfl) (by kernel_rfl) (fun _ => by kernel_rfl) (fun r h => g52_ok k a0 (1 : Int) r h) (fun _ => by kernel_rfl) (fun x1_1 hx1_1 => ?_)
      let E2 : Env := [(4, .int .i64 x1_1.2), (3, .int .i64 x1_1.1), (18, .int .i64 x1_1.2), (17, .int .i64 x1_1.1), (14, .tuple [.int .i64 x1_1.1, .int .i64 x1_1.2]), (16, .tuple [.int .i64 x1_1.1, .int .i64 x1_1.2]), (15, .str a0), (13, .bool true), (0, .str a0), (13, .bool z4)]
      refine ok_run 7 (p' := g35p5) (env' := E2) (H' := (mkH [])) (by kernel_rfl) ?_
      refine ok_keep [4] (env' := [(4, .int .i64 x1_1.2)]) (by kernel_rfl) ?_
      refine ok_run 4 (p' := g35p7) (env' := [(20, .bool (decide (0 < x1_1.2))), (19, .int .i64 x1_1.2), (4, .int .i64 x1_1.2)]) (H' := (mkH [])) (by kernel_rfl) ?_
      refine ok_split 20 (b := decide (0 < x1_1.2)) (by kernel_rfl) (fun hb => ?_) (fun hb => ?_)
      · let E3 : Env := [(2, .int .i64 (fwrap .i64 (x1_1.2 + 1))), (22, .int .i64 (fwrap .i64 (x1_1.2 + 1))), (21, .int .i64 x1_1.2), (20, .bool true), (20, .bool (decide (0 < x1_1.2))), (19, .int .i64 x1_1.2), (4, .int .i64 x1_1.2)]
        refine ok_run 8 (p' := .fin) (env' := E3) (H' := (mkH [])) (by kernel_rfl) ?_
        exact ok_ret (r := (fwrap .i64 (x1_1.2 + 1))) (xs := [.int .i64 (fwrap .i64 (x1_1.2 + 1))]) (v := .int .i64 (fwrap .i64 (x1_1.2 + 1))) (by kernel_rfl) (by kernel_rfl) (by kernel_rfl) (.pures (by kernel_rfl)) (by kernel_rfl)
      · let E4 : Env := [(2, .int .i64 0), (20, .bool false), (20, .bool (decide (0 < x1_1.2))), (19, .int .i64 x1_1.2), (4, .int .i64 x1_1.2)]
        refine ok_run 7 (p' := .fin) (env' := E4) (H' := (mkH [])) (by kernel_rfl) ?_
        exact ok_ret (r := (0 : Int)) (xs := [.int .i64 0]) (v := .int .i64 0) (by kernel_rfl) (by kernel_rfl) (by kernel_rfl) (.pures (by kernel_rfl)) (by kernel_rfl)
    · refine ok_run 6 (p' := (atN 1 (ctl1 g35p4))) (env' := [(23, .str a0), (13, .bool false), (0, .str a0), (13, .bool z4)]) (H' := (mkH [])) (by kernel_rfl) ?_
      refine ok_call (fun (x2_1 : Int) => .int .i64 x2_1) (atN 2 (ctl1 g35p4)) (fun x2_1 => [(24, .int .i64 x2_1), (23, .str a0), (13, .bool false), (0, .str a0), (13, .bool z4)]) (fi := 51) (args := [.str a0, .int .i64 1]) (by kernel_rfl) (by kernel_rfl) (fun _ => by kernel_rfl) (fun r h => g51_ok k a0 (1 : Int) r h) (fun _ => by kernel_rfl) (fun x2_1 hx2_1 => ?_)
      let E5 : Env := [(27, .bool (decide (0 < x2_1))), (26, .bool (decide (0 < x2_1))), (25, .int .i64 x2_1), (5, .int .i64 x2_1), (24, .int .i64 x2_1), (23, .str a0), (13, .bool false), (0, .str a0), (13, .bool z4)]
      refine ok_run 7 (p' := (atN 3 (ctl1 g35p6))) (env' := E5) (H' := (mkH [])) (by kernel_rfl) ?_
      refine ok_jn (f := fun (z5 : Bool) => if z5 then (some (fwrap .i64 (x2_1 + 1))) else (some (0 : Int))) g35p8 (fun (z5 : Bool) => [(5, .int .i64 x2_1), (31, .bool z5)]) (fun (z5 : Bool) => (mkH [])) (fun z5 => ?_) (fun j5 hj5 => ?_)
      · refine ok_split 31 (b := z5) (by kernel_rfl) (fun hb => ?_) (fun hb => ?_)
        · let E6 : Env := [(2, .int .i64 (fwrap .i64 (x2_1 + 1))), (33, .int .i64 (fwrap .i64 (x2_1 + 1))), (32, .int .i64 x2_1), (31, .bool true), (5, .int .i64 x2_1), (31, .bool z5)]
          refine ok_run 8 (p' := .fin) (env' := E6) (H' := (mkH [])) (by kernel_rfl) ?_
          exact ok_ret (r := (fwrap .i64 (x2_1 + 1))) (xs := [.int .i64 (fwrap .i64 (x2_1 + 1))]) (v := .int .i64 (fwrap .i64 (x2_1 + 1))) (by kernel_rfl) (by kernel_rfl) (by kernel_rfl) (.pures (by kernel_rfl)) (by kernel_rfl)
        · refine ok_run 7 (p' := .fin) (env' := [(2, .int .i64 0), (31, .bool false), (5, .int .i64 x2_1), (31, .bool z5)]) (H' := (mkH [])) (by kernel_rfl) ?_
          exact ok_ret (r := (0 : Int)) (xs := [.int .i64 0]) (v := .int .i64 0) (by kernel_rfl) (by kernel_rfl) (by kernel_rfl) (.pures (by kernel_rfl)) (by kernel_rfl)
      · refine ok_split 27 (b := decide (0 < x2_1)) (by kernel_rfl) (fun hb => ?_) (fun hb => ?_)
        · refine ok_run 1 (p' := (atN 4 (ctl1 g35p6))) (env' := ((28, .str a0) :: (27, .bool true) :: E5)) (H' := (mkH [])) (by kernel_rfl) ?_
          refine ok_chk (fun (x3_4 : Int) => (.int .u8 x3_4, (mkH []))) (atN 5 (ctl1 g35p6)) (fun x3_4 => ((29, .int .u8 x3_4) :: (28, .str a0) :: (27, .bool true) :: E5)) (idxH (by kernel_rfl)) (fun _ => by kernel_rfl) (fun x3_4 hx3_4 => ?_)
          let E7 : Env := ((31, .bool (!decide (x3_4 = 32))) :: (30, .bool (!decide (x3_4 = 32))) :: (29, .int .u8 x3_4) :: (28, .str a0) :: (27, .bool true) :: E5)
          refine ok_run 3 (p' := g35p8) (env' := E7) (H' := (mkH [])) (by kernel_rfl) ?_
          refine ok_keep [5, 31] (env' := [(5, .int .i64 x2_1), (31, .bool (!decide (x3_4 = 32)))]) (by kernel_rfl) ?_
          exact hj5 (!decide (x3_4 = 32))
        · let E8 : Env := ((31, .bool false) :: (30, .tuple []) :: (29, .tuple []) :: (28, .tuple []) :: (27, .bool false) :: E5)
          refine ok_run 5 (p' := g35p8) (env' := E8) (H' := (mkH [])) (by kernel_rfl) ?_
          refine ok_keep [5, 31] (env' := [(5, .int .i64 x2_1), (31, .bool false)]) (by kernel_rfl) ?_
          exact hj5 false
  · refine ok_split 9 (b := decide (1 < (a0.length : Int))) (by kernel_rfl) (fun hb => ?_) (fun hb => ?_)
    · refine ok_run 1 (p' := (atN 5 (ctl1 g35p1))) (env' := ((10, .str a0) :: (9, .bool true) :: E1)) (H' := (mkH [])) (by kernel_rfl) ?_
      refine ok_chk (fun (x0_5 : Int) => (.int .u8 x0_5, (mkH []))) (atN 6 (ctl1 g35p1)) (fun x0_5 => ((11, .int .u8 x0_5) :: (10, .str a0) :: (9, .bool true) :: E1)) (idxH (by kernel_rfl)) (fun _ => by kernel_rfl) (fun x0_5 hx0_5 => ?_)
      let E9 : Env := ((13, .bool (decide (x0_5 = 92))) :: (12, .bool (decide (x0_5 = 92))) :: (11, .int .u8 x0_5) :: (10, .str a0) :: (9, .bool true) :: E1)
      refine ok_run 3 (p' := g35p2) (env' := E9) (H' := (mkH [])) (by kernel_rfl) ?_
      refine ok_keep [0, 13] (env' := [(0, .str a0), (13, .bool (decide (x0_5 = 92)))]) (by kernel_rfl) ?_
      exact hj4 (decide (x0_5 = 92))
    · let E10 : Env := ((13, .bool false) :: (12, .tuple []) :: (11, .tuple []) :: (10, .tuple []) :: (9, .bool false) :: E1)
      refine ok_run 5 (p' := g35p2) (env' := E10) (H' := (mkH [])) (by kernel_rfl) ?_
      refine ok_keep [0, 13] (env' := [(0, .str a0), (13, .bool false)]) (by kernel_rfl) ?_
      exact hj4 false
end Go.Proofs.Ytokcjgjgojlhbaa.Am
