/- Function 36, plain, and that the program computes it. Printed by gen.py. -/
import Derived.Test.YtokcjgjgojlhbaaTy
import Derived.Test.YtokcjgjgojlhbaaG37
import Derived.Test.YtokcjgjgojlhbaaG39
import Derived.Test.YtokcjgjgojlhbaaG53
set_option maxRecDepth 100000
set_option linter.unusedVariables false
namespace Go.Proofs.Ytokcjgjgojlhbaa.Am
open Go

/-! 36 galley/scan.macro -/
noncomputable def X36 : Fx Int := ⟨Try.prog, cx, Try.f36, fun r => .int .i64 r, 0, fun _ => H0, cxTi, cxOrd⟩
noncomputable def g36p0 : Pt := nav [0] (bodyAt Try.f36)
noncomputable def g36p1 : Pt := nav [0, 0, 0] g36p0
noncomputable def g36p2 : Pt := nav [0, 0, 0, 0] g36p1
noncomputable def g36p3 : Pt := nav [0, 0] g36p2
noncomputable def g36p4 : Pt := nav [1] g36p3
noncomputable def g36p5 : Pt := nav [2, 0, 0, 0] g36p3
noncomputable def g36p6 : Pt := nav [0, 0, 0] g36p5
noncomputable def g36p7 : Pt := nav [0, 0] g36p6
noncomputable def g36p8 : Pt := nav [1, 0] g36p7
noncomputable def g36p9 : Pt := nav [2, 0, 0] g36p7
noncomputable def g36 (k : Nat) (a0 : (List Nat)) : Option Int :=
  jn (fun (z3 : Bool) => jn (fun (z4 : Int) => (g53 k a0 z4).bind fun x1_2 => (g37 k x1_2).bind fun x1_3 => jn (fun (z5 : Bool) => if z5 then (some (0 : Int)) else ((subL a0 (some z4) none).bind fun x2_3 => (g39 k x2_3).bind fun x2_4 => some (fwrap .i64 (z4 + x2_4)))) (fun j5 => if (!decide (x1_3 = 1)) then (j5 (!decide (x1_3 = 2))) else (j5 false))) (fun j4 => if z3 then (j4 2) else (j4 1))) (fun j3 => if (decide (1 < (a0.length : Int))) then ((nthS a0 1).bind fun x0_5 => j3 (decide (x0_5 = 63))) else (j3 false))
theorem g36_ok (k : Nat) (a0 : (List Nat)) (r : Int) (h : g36 k a0 = some r) : PureOk Try.prog 36 [.str a0] (.int .i64 r) := by
  refine pure_of X36 (fun _ => rfl) Try.func36 (by decide +kernel) (by kernel_rfl) (t := g36 k a0) ?_ h
  unfold g36
  refine ok_env (env' := [(0, .str a0)]) (by kernel_rfl) ?_
  let E1 : Env := [(8, .bool (decide (1 < (a0.length : Int)))), (7, .bool (decide (1 < (a0.length : Int)))), (6, .int .i64 (a0.length : Int)), (5, .str a0), (3, .int .i64 1), (2, .int .i64 0), (0, .str a0)]
  refine ok_run 15 (p' := (atN 4 (ctl1 g36p2))) (env' := E1) (H' := (mkH [])) (by kernel_rfl) ?_
  refine ok_jn (f := fun (z3 : Bool) => jn (fun (z4 : Int) => (g53 k a0 z4).bind fun x1_2 => (g37 k x1_2).bind fun x1_3 => jn (fun (z5 : Bool) => if z5 then (some (0 : Int)) else ((subL a0 (some z4) none).bind fun x2_3 => (g39 k x2_3).bind fun x2_4 => some (fwrap .i64 (z4 + x2_4)))) (fun j5 => if (!decide (x1_3 = 1)) then (j5 (!decide (x1_3 = 2))) else (j5 false))) (fun j4 => if z3 then (j4 2) else (j4 1))) g36p3 (fun (z3 : Bool) => [(0, .str a0), (3, .int .i64 1), (12, .bool z3)]) (fun (z3 : Bool) => (mkH [])) (fun z3 => ?_) (fun j3 hj3 => ?_)
  · refine ok_jn (f := fun (z4 : Int) => (g53 k a0 z4).bind fun x1_2 => (g37 k x1_2).bind fun x1_3 => jn (fun (z5 : Bool) => if z5 then (some (0 : Int)) else ((subL a0 (some z4) none).bind fun x2_3 => (g39 k x2_3).bind fun x2_4 => some (fwrap .i64 (z4 + x2_4)))) (fun j5 => if (!decide (x1_3 = 1)) then (j5 (!decide (x1_3 = 2))) else (j5 false))) g36p5 (fun (z4 : Int) => [(0, .str a0), (3, .int .i64 z4)]) (fun (z4 : Int) => (mkH [])) (fun z4 => ?_) (fun j4 hj4 => ?_)
    · refine ok_run 3 (p' := (atN 2 (ctl1 g36p5))) (env' := [(14, .int .i64 z4), (13, .str a0), (0, .str a0), (3, .int .i64 z4)]) (H' := (mkH [])) (by kernel_rfl) ?_
      refine ok_call (fun (x1_2 : Int) => .int .u8 x1_2) (atN 3 (ctl1 g36p5)) (fun x1_2 => [(15, .int .u8 x1_2), (14, .int .i64 z4), (13, .str a0), (0, .str a0), (3, .int .i64 z4)]) (fi := 53) (args := [.str a0, .int .i64 z4]) (by kernel_rfl) (by kernel_rfl) (fun _ => by kernel_rfl) (fun r h => g53_ok k a0 z4 r h) (fun _ => by kernel_rfl) (fun x1_2 hx1_2 => ?_)
      refine ok_call (fun (x1_3 : Int) => .int .i64 x1_3) (atN 4 (ctl1 g36p5)) (fun x1_3 => [(16, .int .i64 x1_3), (15, .int .u8 x1_2), (14, .int .i64 z4), (13, .str a0), (0, .str a0), (3, .int .i64 z4)]) (fi := 37) (args := [.int .u8 x1_2]) (by kernel_rfl) (by kernel_rfl) (fun _ => by kernel_rfl) (fun r h => g37_ok k x1_2 r h) (fun _ => by kernel_rfl) (fun x1_3 hx1_3 => ?_)
      let E2 : Env := [(19, .bool (!decide (x1_3 = 1))), (18, .bool (!decide (x1_3 = 1))), (17, .int .i64 x1_3), (4, .int .i64 x1_3), (16, .int .i64 x1_3), (15, .int .u8 x1_2), (14, .int .i64 z4), (13, .str a0), (0, .str a0), (3, .int .i64 z4)]
      refine ok_run 7 (p' := (atN 3 (ctl1 g36p6))) (env' := E2) (H' := (mkH [])) (by kernel_rfl) ?_
      refine ok_jn (f := fun (z5 : Bool) => if z5 then (some (0 : Int)) else ((subL a0 (some z4) none).bind fun x2_3 => (g39 k x2_3).bind fun x2_4 => some (fwrap .i64 (z4 + x2_4)))) g36p7 (fun (z5 : Bool) => [(0, .str a0), (3, .int .i64 z4), (22, .bool z5)]) (fun (z5 : Bool) => (mkH [])) (fun z5 => ?_) (fun j5 hj5 => ?_)
      · refine ok_split 22 (b := z5) (by kernel_rfl) (fun hb => ?_) (fun hb => ?_)
        · let E3 : Env := [(2, .int .i64 0), (22, .bool true), (0, .str a0), (3, .int .i64 z4), (22, .bool z5)]
          refine ok_run 6 (p' := .fin) (env' := E3) (H' := (mkH [])) (by kernel_rfl) ?_
          exact ok_ret (r := (0 : Int)) (xs := [.int .i64 0]) (v := .int .i64 0) (by kernel_rfl) (by kernel_rfl) (by kernel_rfl) (.pures (by kernel_rfl)) (by kernel_rfl)
        · let E4 : Env := [(25, .int .i64 z4), (24, .str a0), (23, .int .i64 z4), (22, .bool false), (0, .str a0), (3, .int .i64 z4), (22, .bool z5)]
          refine ok_run 7 (p' := (atN 3 (ctl1 g36p9))) (env' := E4) (H' := (mkH [])) (by kernel_rfl) ?_
          refine ok_chk (fun (x2_3 : (List Nat)) => (.str x2_3, (mkH []))) (atN 4 (ctl1 g36p9)) (fun x2_3 => ((26, .str x2_3) :: E4)) (subH (some z4) none (by kernel_rfl)) (fun _ => by kernel_rfl) (fun x2_3 hx2_3 => ?_)
          refine ok_call (fun (x2_4 : Int) => .int .i64 x2_4) (atN 5 (ctl1 g36p9)) (fun x2_4 => ((27, .int .i64 x2_4) :: (26, .str x2_3) :: E4)) (fi := 39) (args := [.str x2_3]) (by kernel_rfl) (by kernel_rfl) (fun _ => by kernel_rfl) (fun r h => g39_ok k x2_3 r h) (fun _ => by kernel_rfl) (fun x2_4 hx2_4 => ?_)
          refine ok_run 4 (p' := .fin) (env' := ((2, .int .i64 (fwrap .i64 (z4 + x2_4))) :: (28, .int .i64 (fwrap .i64 (z4 + x2_4))) :: (27, .int .i64 x2_4) :: (26, .str x2_3) :: E4)) (H' := (mkH [])) (by kernel_rfl) ?_
          exact ok_ret (r := (fwrap .i64 (z4 + x2_4))) (xs := [.int .i64 (fwrap .i64 (z4 + x2_4))]) (v := .int .i64 (fwrap .i64 (z4 + x2_4))) (by kernel_rfl) (by kernel_rfl) (by kernel_rfl) (.pures (by kernel_rfl)) (by kernel_rfl)
      · refine ok_split 19 (b := !decide (x1_3 = 1)) (by kernel_rfl) (fun hb => ?_) (fun hb => ?_)
        · refine ok_run 4 (p' := g36p7) (env' := ((22, .bool (!decide (x1_3 = 2))) :: (21, .bool (!decide (x1_3 = 2))) :: (20, .int .i64 x1_3) :: (19, .bool true) :: E2)) (H' := (mkH [])) (by kernel_rfl) ?_
          refine ok_keep [0, 3, 22] (env' := [(0, .str a0), (3, .int .i64 z4), (22, .bool (!decide (x1_3 = 2)))]) (by kernel_rfl) ?_
          exact hj5 (!decide (x1_3 = 2))
        · refine ok_run 4 (p' := g36p7) (env' := ((22, .bool false) :: (21, .tuple []) :: (20, .tuple []) :: (19, .bool false) :: E2)) (H' := (mkH [])) (by kernel_rfl) ?_
          refine ok_keep [0, 3, 22] (env' := [(0, .str a0), (3, .int .i64 z4), (22, .bool false)]) (by kernel_rfl) ?_
          exact hj5 false
    · refine ok_split 12 (b := z3) (by kernel_rfl) (fun hb => ?_) (fun hb => ?_)
      · let E5 : Env := [(3, .int .i64 2), (12, .bool true), (0, .str a0), (3, .int .i64 1), (12, .bool z3)]
        refine ok_run 6 (p' := g36p5) (env' := E5) (H' := (mkH [])) (by kernel_rfl) ?_
        refine ok_keep [0, 3] (env' := [(0, .str a0), (3, .int .i64 2)]) (by kernel_rfl) ?_
        exact hj4 2
      · refine ok_run 4 (p' := g36p5) (env' := [(12, .bool false), (0, .str a0), (3, .int .i64 1), (12, .bool z3)]) (H' := (mkH [])) (by kernel_rfl) ?_
        refine ok_keep [0, 3] (env' := [(0, .str a0), (3, .int .i64 1)]) (by kernel_rfl) ?_
        exact hj4 1
  · refine ok_split 8 (b := decide (1 < (a0.length : Int))) (by kernel_rfl) (fun hb => ?_) (fun hb => ?_)
    · refine ok_run 1 (p' := (atN 5 (ctl1 g36p2))) (env' := ((9, .str a0) :: (8, .bool true) :: E1)) (H' := (mkH [])) (by kernel_rfl) ?_
      refine ok_chk (fun (x0_5 : Int) => (.int .u8 x0_5, (mkH []))) (atN 6 (ctl1 g36p2)) (fun x0_5 => ((10, .int .u8 x0_5) :: (9, .str a0) :: (8, .bool true) :: E1)) (idxH (by kernel_rfl)) (fun _ => by kernel_rfl) (fun x0_5 hx0_5 => ?_)
      let E6 : Env := ((12, .bool (decide (x0_5 = 63))) :: (11, .bool (decide (x0_5 = 63))) :: (10, .int .u8 x0_5) :: (9, .str a0) :: (8, .bool true) :: E1)
      refine ok_run 3 (p' := g36p3) (env' := E6) (H' := (mkH [])) (by kernel_rfl) ?_
      refine ok_keep [0, 3, 12] (env' := [(0, .str a0), (3, .int .i64 1), (12, .bool (decide (x0_5 = 63)))]) (by kernel_rfl) ?_
      exact hj3 (decide (x0_5 = 63))
    · let E7 : Env := ((12, .bool false) :: (11, .tuple []) :: (10, .tuple []) :: (9, .tuple []) :: (8, .bool false) :: E1)
      refine ok_run 5 (p' := g36p3) (env' := E7) (H' := (mkH [])) (by kernel_rfl) ?_
      refine ok_keep [0, 3, 12] (env' := [(0, .str a0), (3, .int .i64 1), (12, .bool false)]) (by kernel_rfl) ?_
      exact hj3 false
end Go.Proofs.Ytokcjgjgojlhbaa.Am
