/- Function 56, plain, and that the program computes it. Printed by gen.py. -/
import Derived.Test.YtokcjgjgojlhbaaTy
import Derived.Test.YtokcjgjgojlhbaaG57
import Derived.Test.YtokcjgjgojlhbaaG64
set_option maxRecDepth 100000
set_option linter.unusedVariables false
namespace Go.Proofs.Ytokcjgjgojlhbaa.Am
open Go

/-! 56 galley/lit.Whole -/
noncomputable def X56 : Fx Int := ⟨Try.prog, cx, Try.f56, fun r => .int .i64 r, 0, fun _ => H0, cxTi, cxOrd⟩
noncomputable def g56p0 : Pt := nav [0] (bodyAt Try.f56)
noncomputable def g56p1 : Pt := nav [0, 0, 0] g56p0
noncomputable def g56p2 : Pt := nav [0, 0, 0, 0] g56p1
noncomputable def g56p3 : Pt := nav [0, 0, 0] g56p2
noncomputable def g56p4 : Pt := nav [0, 0] g56p3
noncomputable def g56p5 : Pt := nav [1, 0] g56p4
noncomputable def g56p6 : Pt := nav [2, 0, 0] g56p4
noncomputable def g56 (k : Nat) (a0 : (List Nat)) : Option Int :=
  (g57 k a0).bind fun x0_1 => (subL a0 (some x0_1.1) none).bind fun x1_2 => (g64 k x1_2 x0_1.2).bind fun x1_4 => jn (fun (z3 : Bool) => if z3 then (some (fwrap .i64 (x0_1.1 + x1_4))) else ((g64 k a0 (10 : Int)).bind fun x2_1 => some x2_1)) (fun j3 => if (decide (0 < x0_1.1)) then (j3 (decide (0 < x1_4))) else (j3 false))
theorem g56_ok (k : Nat) (a0 : (List Nat)) (r : Int) (h : g56 k a0 = some r) : PureOk Try.prog 56 [.str a0] (.int .i64 r) := by
  refine pure_of X56 (fun _ => rfl) Try.func56 (by decide +kernel) (by kernel_rfl) (t := g56 k a0) ?_ h
  unfold g56
  refine ok_env (env' := [(0, .str a0)]) (by kernel_rfl) ?_
  refine ok_run 7 (p' := (atN 1 (ctl1 g56p1))) (env' := [(7, .str a0), (2, .int .i64 0), (0, .str a0)]) (H' := (mkH [])) (by kernel_rfl) ?_
  refine ok_call (fun (x0_1 : (Int × Int)) => .tuple [.int .i64 x0_1.1, .int .i64 x0_1.2]) (atN 2 (ctl1 g56p1)) (fun x0_1 => [(8, .tuple [.int .i64 x0_1.1, .int .i64 x0_1.2]), (7, .str a0), (2, .int .i64 0), (0, .str a0)]) (fi := 57) (args := [.str a0]) (by kernel_rfl) (by kernel_rfl) (fun _ => by kernel_rfl) (fun r h => g57_ok k a0 r h) (fun _ => by kernel_rfl) (fun x0_1 hx0_1 => ?_)
  let E1 : Env := [(12, .int .i64 x0_1.1), (11, .str a0), (4, .int .i64 x0_1.2), (3, .int .i64 x0_1.1), (10, .int .i64 x0_1.2), (9, .int .i64 x0_1.1), (6, .tuple [.int .i64 x0_1.1, .int .i64 x0_1.2]), (8, .tuple [.int .i64 x0_1.1, .int .i64 x0_1.2]), (7, .str a0), (2, .int .i64 0), (0, .str a0)]
  refine ok_run 11 (p' := (atN 2 (ctl1 g56p2))) (env' := E1) (H' := (mkH [])) (by kernel_rfl) ?_
  refine ok_chk (fun (x1_2 : (List Nat)) => (.str x1_2, (mkH []))) (atN 3 (ctl1 g56p2)) (fun x1_2 => ((13, .str x1_2) :: E1)) (subH (some x0_1.1) none (by kernel_rfl)) (fun _ => by kernel_rfl) (fun x1_2 hx1_2 => ?_)
  refine ok_run 1 (p' := (atN 4 (ctl1 g56p2))) (env' := ((14, .int .i64 x0_1.2) :: (13, .str x1_2) :: E1)) (H' := (mkH [])) (by kernel_rfl) ?_
  refine ok_call (fun (x1_4 : Int) => .int .i64 x1_4) (atN 5 (ctl1 g56p2)) (fun x1_4 => ((15, .int .i64 x1_4) :: (14, .int .i64 x0_1.2) :: (13, .str x1_2) :: E1)) (fi := 64) (args := [.str x1_2, .int .i64 x0_1.2]) (by kernel_rfl) (by kernel_rfl) (fun _ => by kernel_rfl) (fun r h => g64_ok k x1_2 x0_1.2 r h) (fun _ => by kernel_rfl) (fun x1_4 hx1_4 => ?_)
  refine ok_run 3 (p' := g56p3) (env' := ((5, .int .i64 x1_4) :: (15, .int .i64 x1_4) :: (14, .int .i64 x0_1.2) :: (13, .str x1_2) :: E1)) (H' := (mkH [])) (by kernel_rfl) ?_
  refine ok_keep [0, 3, 5] (env' := [(0, .str a0), (3, .int .i64 x0_1.1), (5, .int .i64 x1_4)]) (by kernel_rfl) ?_
  let E2 : Env := [(18, .bool (decide (0 < x0_1.1))), (17, .bool (decide (0 < x0_1.1))), (16, .int .i64 x0_1.1), (0, .str a0), (3, .int .i64 x0_1.1), (5, .int .i64 x1_4)]
  refine ok_run 4 (p' := (atN 3 (ctl1 g56p3))) (env' := E2) (H' := (mkH [])) (by kernel_rfl) ?_
  refine ok_jn (f := fun (z3 : Bool) => if z3 then (some (fwrap .i64 (x0_1.1 + x1_4))) else ((g64 k a0 (10 : Int)).bind fun x2_1 => some x2_1)) g56p4 (fun (z3 : Bool) => [(0, .str a0), (3, .int .i64 x0_1.1), (5, .int .i64 x1_4), (21, .bool z3)]) (fun (z3 : Bool) => (mkH [])) (fun z3 => ?_) (fun j3 hj3 => ?_)
  · refine ok_split 21 (b := z3) (by kernel_rfl) (fun hb => ?_) (fun hb => ?_)
    · let E3 : Env := [(2, .int .i64 (fwrap .i64 (x0_1.1 + x1_4))), (24, .int .i64 (fwrap .i64 (x0_1.1 + x1_4))), (23, .int .i64 x1_4), (22, .int .i64 x0_1.1), (21, .bool true), (0, .str a0), (3, .int .i64 x0_1.1), (5, .int .i64 x1_4), (21, .bool z3)]
      refine ok_run 9 (p' := .fin) (env' := E3) (H' := (mkH [])) (by kernel_rfl) ?_
      exact ok_ret (r := (fwrap .i64 (x0_1.1 + x1_4))) (xs := [.int .i64 (fwrap .i64 (x0_1.1 + x1_4))]) (v := .int .i64 (fwrap .i64 (x0_1.1 + x1_4))) (by kernel_rfl) (by kernel_rfl) (by kernel_rfl) (.pures (by kernel_rfl)) (by kernel_rfl)
    · let E4 : Env := [(25, .str a0), (21, .bool false), (0, .str a0), (3, .int .i64 x0_1.1), (5, .int .i64 x1_4), (21, .bool z3)]
      refine ok_run 5 (p' := (atN 1 (ctl1 g56p6))) (env' := E4) (H' := (mkH [])) (by kernel_rfl) ?_
      refine ok_call (fun (x2_1 : Int) => .int .i64 x2_1) (atN 2 (ctl1 g56p6)) (fun x2_1 => ((26, .int .i64 x2_1) :: E4)) (fi := 64) (args := [.str a0, .int .i64 10]) (by kernel_rfl) (by kernel_rfl) (fun _ => by kernel_rfl) (fun r h => g64_ok k a0 (10 : Int) r h) (fun _ => by kernel_rfl) (fun x2_1 hx2_1 => ?_)
      refine ok_run 3 (p' := .fin) (env' := ((2, .int .i64 x2_1) :: (26, .int .i64 x2_1) :: E4)) (H' := (mkH [])) (by kernel_rfl) ?_
      exact ok_ret (r := x2_1) (xs := [.int .i64 x2_1]) (v := .int .i64 x2_1) (by kernel_rfl) (by kernel_rfl) (by kernel_rfl) (.pures (by kernel_rfl)) (by kernel_rfl)
  · refine ok_split 18 (b := decide (0 < x0_1.1)) (by kernel_rfl) (fun hb => ?_) (fun hb => ?_)
    · refine ok_run 4 (p' := g56p4) (env' := ((21, .bool (decide (0 < x1_4))) :: (20, .bool (decide (0 < x1_4))) :: (19, .int .i64 x1_4) :: (18, .bool true) :: E2)) (H' := (mkH [])) (by kernel_rfl) ?_
      refine ok_keep [0, 3, 5, 21] (env' := [(0, .str a0), (3, .int .i64 x0_1.1), (5, .int .i64 x1_4), (21, .bool (decide (0 < x1_4)))]) (by kernel_rfl) ?_
      exact hj3 (decide (0 < x1_4))
    · refine ok_run 4 (p' := g56p4) (env' := ((21, .bool false) :: (20, .tuple []) :: (19, .tuple []) :: (18, .bool false) :: E2)) (H' := (mkH [])) (by kernel_rfl) ?_
      refine ok_keep [0, 3, 5, 21] (env' := [(0, .str a0), (3, .int .i64 x0_1.1), (5, .int .i64 x1_4), (21, .bool false)]) (by kernel_rfl) ?_
      exact hj3 false
end Go.Proofs.Ytokcjgjgojlhbaa.Am
