/- Function 51, plain, and that the program computes it. Printed by gen.py. -/
import Derived.Test.YtokcjgjgojlhbaaTy
import Derived.Test.YtokcjgjgojlhbaaG31
set_option maxRecDepth 100000
set_option linter.unusedVariables false
namespace Go.Proofs.Ytokcjgjgojlhbaa.Am
open Go

/-! 51 galley/scan.shown -/
noncomputable def X51 : Fx Int := ⟨Try.prog, cx, Try.f51, fun r => .int .i64 r, 0, fun _ => H0, cxTi, cxOrd⟩
noncomputable def g51p0 : Pt := nav [0] (bodyAt Try.f51)
noncomputable def g51p1 : Pt := nav [0, 0, 0] g51p0
noncomputable def g51p2 : Pt := nav [0, 0, 0, 0] g51p1
noncomputable def g51p3 : Pt := nav [0, 0] g51p2
noncomputable def g51p4 : Pt := nav [1, 0] g51p3
noncomputable def g51p5 : Pt := nav [2, 0, 0] g51p3
noncomputable def g51 (k : Nat) (a0 : (List Nat)) (a1 : Int) : Option Int :=
  (g31 k a0 a1).bind fun x0_2 => jn (fun (z1 : Bool) => if z1 then (some (0 : Int)) else (some x0_2.2)) (fun j1 => if (decide (x0_2.1 < 32)) then (j1 true) else (j1 (decide (x0_2.1 = 127))))
theorem g51_ok (k : Nat) (a0 : (List Nat)) (a1 : Int) (r : Int) (h : g51 k a0 a1 = some r) : PureOk Try.prog 51 [.str a0, .int .i64 a1] (.int .i64 r) := by
  refine pure_of X51 (fun _ => rfl) Try.func51 (by decide +kernel) (by kernel_rfl) (t := g51 k a0 a1) ?_ h
  unfold g51
  refine ok_env (env' := [(0, .str a0), (1, .int .i64 a1)]) (by kernel_rfl) ?_
  let E1 : Env := [(9, .int .i64 a1), (8, .str a0), (4, .int .i64 0), (0, .str a0), (1, .int .i64 a1)]
  refine ok_run 8 (p' := (atN 2 (ctl1 g51p1))) (env' := E1) (H' := (mkH [])) (by kernel_rfl) ?_
  refine ok_call (fun (x0_2 : (Int × Int)) => .tuple [.int .i64 x0_2.1, .int .i64 x0_2.2]) (atN 3 (ctl1 g51p1)) (fun x0_2 => ((10, .tuple [.int .i64 x0_2.1, .int .i64 x0_2.2]) :: E1)) (fi := 31) (args := [.str a0, .int .i64 a1]) (by kernel_rfl) (by kernel_rfl) (fun _ => by kernel_rfl) (fun r h => g31_ok k a0 a1 r h) (fun _ => by kernel_rfl) (fun x0_2 hx0_2 => ?_)
  let E2 : Env := ((6, .int .i64 x0_2.2) :: (5, .int .i64 x0_2.1) :: (12, .int .i64 x0_2.2) :: (11, .int .i64 x0_2.1) :: (7, .tuple [.int .i64 x0_2.1, .int .i64 x0_2.2]) :: (10, .tuple [.int .i64 x0_2.1, .int .i64 x0_2.2]) :: E1)
  refine ok_run 8 (p' := g51p2) (env' := E2) (H' := (mkH [])) (by kernel_rfl) ?_
  refine ok_keep [5, 6] (env' := [(5, .int .i64 x0_2.1), (6, .int .i64 x0_2.2)]) (by kernel_rfl) ?_
  let E3 : Env := [(15, .bool (decide (x0_2.1 < 32))), (14, .bool (decide (x0_2.1 < 32))), (13, .int .i64 x0_2.1), (5, .int .i64 x0_2.1), (6, .int .i64 x0_2.2)]
  refine ok_run 4 (p' := (atN 3 (ctl1 g51p2))) (env' := E3) (H' := (mkH [])) (by kernel_rfl) ?_
  refine ok_jn (f := fun (z1 : Bool) => if z1 then (some (0 : Int)) else (some x0_2.2)) g51p3 (fun (z1 : Bool) => [(6, .int .i64 x0_2.2), (18, .bool z1)]) (fun (z1 : Bool) => (mkH [])) (fun z1 => ?_) (fun j1 hj1 => ?_)
  · refine ok_split 18 (b := z1) (by kernel_rfl) (fun hb => ?_) (fun hb => ?_)
    · refine ok_run 6 (p' := .fin) (env' := [(4, .int .i64 0), (18, .bool true), (6, .int .i64 x0_2.2), (18, .bool z1)]) (H' := (mkH [])) (by kernel_rfl) ?_
      exact ok_ret (r := (0 : Int)) (xs := [.int .i64 0]) (v := .int .i64 0) (by kernel_rfl) (by kernel_rfl) (by kernel_rfl) (.pures (by kernel_rfl)) (by kernel_rfl)
    · let E4 : Env := [(4, .int .i64 x0_2.2), (19, .int .i64 x0_2.2), (18, .bool false), (6, .int .i64 x0_2.2), (18, .bool z1)]
      refine ok_run 8 (p' := .fin) (env' := E4) (H' := (mkH [])) (by kernel_rfl) ?_
      exact ok_ret (r := x0_2.2) (xs := [.int .i64 x0_2.2]) (v := .int .i64 x0_2.2) (by kernel_rfl) (by kernel_rfl) (by kernel_rfl) (.pures (by kernel_rfl)) (by kernel_rfl)
  · refine ok_split 15 (b := decide (x0_2.1 < 32)) (by kernel_rfl) (fun hb => ?_) (fun hb => ?_)
    · refine ok_run 4 (p' := g51p3) (env' := ((18, .bool true) :: (17, .tuple []) :: (16, .tuple []) :: (15, .bool true) :: E3)) (H' := (mkH [])) (by kernel_rfl) ?_
      refine ok_keep [6, 18] (env' := [(6, .int .i64 x0_2.2), (18, .bool true)]) (by kernel_rfl) ?_
      exact hj1 true
    · refine ok_run 4 (p' := g51p3) (env' := ((18, .bool (decide (x0_2.1 = 127))) :: (17, .bool (decide (x0_2.1 = 127))) :: (16, .int .i64 x0_2.1) :: (15, .bool false) :: E3)) (H' := (mkH [])) (by kernel_rfl) ?_
      refine ok_keep [6, 18] (env' := [(6, .int .i64 x0_2.2), (18, .bool (decide (x0_2.1 = 127)))]) (by kernel_rfl) ?_
      exact hj1 (decide (x0_2.1 = 127))
end Go.Proofs.Ytokcjgjgojlhbaa.Am
