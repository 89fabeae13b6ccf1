/- Function 30, plain, and that the program computes it. Printed by gen.py. -/
import Derived.Test.YtnikdnchoahngaaTy
import Derived.Test.YtnikdnchoahngaaG24
import Derived.Test.YtnikdnchoahngaaG26
set_option maxRecDepth 100000
set_option linter.unusedVariables false
namespace Go.Proofs.Ytnikdnchoahngaa.Am
open Go

/-! 30 galley/galleyref9.Left -/
noncomputable def X30 : Fx Int := ⟨Try.prog, cx, Try.f30, fun r => .int .i64 r, 0, fun _ => H0, cxTi, cxOrd⟩
noncomputable def g30p0 : Pt := nav [0] (bodyAt Try.f30)
noncomputable def g30p1 : Pt := nav [0, 0, 0] g30p0
noncomputable def g30p2 : Pt := nav [0, 0, 0, 0] g30p1
noncomputable def g30p3 : Pt := nav [0, 0] g30p2
noncomputable def g30p4 : Pt := nav [1, 0] g30p3
noncomputable def g30p5 : Pt := nav [2, 0, 0] g30p3
noncomputable def g30 (k : Nat) (a0 : (List Nat)) : Option Int :=
  (g24 k a0).bind fun x0_1 => jn (fun (z2 : Bool) => if z2 then (some (fwrap .i64 (x0_1 + 1))) else (some x0_1)) (fun j2 => if (decide (0 < x0_1)) then ((g26 k a0).bind fun x1_4 => j2 (!decide (x1_4 = 1))) else (j2 false))
theorem g30_ok (k : Nat) (a0 : (List Nat)) (r : Int) (h : g30 k a0 = some r) : PureOk Try.prog 30 [.str a0] (.int .i64 r) := by
  refine pure_of X30 (fun _ => rfl) Try.func30 (by decide +kernel) (by kernel_rfl) (t := g30 k a0) ?_ h
  unfold g30
  refine ok_env (env' := [(0, .str a0)]) (by kernel_rfl) ?_
  refine ok_run 7 (p' := (atN 1 (ctl1 g30p1))) (env' := [(4, .str a0), (2, .int .i64 0), (0, .str a0)]) (H' := (mkH [])) (by kernel_rfl) ?_
  refine ok_call (fun (x0_1 : Int) => .int .i64 x0_1) (atN 2 (ctl1 g30p1)) (fun x0_1 => [(5, .int .i64 x0_1), (4, .str a0), (2, .int .i64 0), (0, .str a0)]) (fi := 24) (args := [.str a0]) (by kernel_rfl) (by kernel_rfl) (fun _ => by kernel_rfl) (fun r h => g24_ok k a0 r h) (fun _ => by kernel_rfl) (fun x0_1 hx0_1 => ?_)
  refine ok_run 8 (p' := (atN 3 (ctl1 g30p2))) (env' := [(8, .bool (decide (0 < x0_1))), (7, .bool (decide (0 < x0_1))), (6, .int .i64 x0_1), (3, .int .i64 x0_1), (5, .int .i64 x0_1), (4, .str a0), (2, .int .i64 0), (0, .str a0)]) (H' := (mkH [])) (by kernel_rfl) ?_
  refine ok_jn (f := fun (z2 : Bool) => if z2 then (some (fwrap .i64 (x0_1 + 1))) else (some x0_1)) g30p3 (fun (z2 : Bool) => [(3, .int .i64 x0_1), (12, .bool z2)]) (fun (z2 : Bool) => (mkH [])) (fun z2 => ?_) (fun j2 hj2 => ?_)
  · refine ok_split 12 (b := z2) (by kernel_rfl) (fun hb => ?_) (fun hb => ?_)
    · refine ok_run 8 (p' := .fin) (env' := [(2, .int .i64 (fwrap .i64 (x0_1 + 1))), (14, .int .i64 (fwrap .i64 (x0_1 + 1))), (13, .int .i64 x0_1), (12, .bool true), (3, .int .i64 x0_1), (12, .bool z2)]) (H' := (mkH [])) (by kernel_rfl) ?_
      exact ok_ret (r := (fwrap .i64 (x0_1 + 1))) (xs := [.int .i64 (fwrap .i64 (x0_1 + 1))]) (v := .int .i64 (fwrap .i64 (x0_1 + 1))) (by kernel_rfl) (by kernel_rfl) (by kernel_rfl) (.pures (by kernel_rfl)) (by kernel_rfl)
    · refine ok_run 8 (p' := .fin) (env' := [(2, .int .i64 x0_1), (15, .int .i64 x0_1), (12, .bool false), (3, .int .i64 x0_1), (12, .bool z2)]) (H' := (mkH [])) (by kernel_rfl) ?_
      exact ok_ret (r := x0_1) (xs := [.int .i64 x0_1]) (v := .int .i64 x0_1) (by kernel_rfl) (by kernel_rfl) (by kernel_rfl) (.pures (by kernel_rfl)) (by kernel_rfl)
  · refine ok_split 8 (b := decide (0 < x0_1)) (by kernel_rfl) (fun hb => ?_) (fun hb => ?_)
    · refine ok_run 1 (p' := (atN 4 (ctl1 g30p2))) (env' := [(9, .str a0), (8, .bool true), (8, .bool (decide (0 < x0_1))), (7, .bool (decide (0 < x0_1))), (6, .int .i64 x0_1), (3, .int .i64 x0_1), (5, .int .i64 x0_1), (4, .str a0), (2, .int .i64 0), (0, .str a0)]) (H' := (mkH [])) (by kernel_rfl) ?_
      refine ok_call (fun (x1_4 : Int) => .int .i64 x1_4) (atN 5 (ctl1 g30p2)) (fun x1_4 => [(10, .int .i64 x1_4), (9, .str a0), (8, .bool true), (8, .bool (decide (0 < x0_1))), (7, .bool (decide (0 < x0_1))), (6, .int .i64 x0_1), (3, .int .i64 x0_1), (5, .int .i64 x0_1), (4, .str a0), (2, .int .i64 0), (0, .str a0)]) (fi := 26) (args := [.str a0]) (by kernel_rfl) (by kernel_rfl) (fun _ => by kernel_rfl) (fun r h => g26_ok k a0 r h) (fun _ => by kernel_rfl) (fun x1_4 hx1_4 => ?_)
      refine ok_run 3 (p' := g30p3) (env' := [(12, .bool (!decide (x1_4 = 1))), (11, .bool (!decide (x1_4 = 1))), (10, .int .i64 x1_4), (9, .str a0), (8, .bool true), (8, .bool (decide (0 < x0_1))), (7, .bool (decide (0 < x0_1))), (6, .int .i64 x0_1), (3, .int .i64 x0_1), (5, .int .i64 x0_1), (4, .str a0), (2, .int .i64 0), (0, .str a0)]) (H' := (mkH [])) (by kernel_rfl) ?_
      refine ok_keep [3, 12] (env' := [(3, .int .i64 x0_1), (12, .bool (!decide (x1_4 = 1)))]) (by kernel_rfl) ?_
      exact hj2 (!decide (x1_4 = 1))
    · refine ok_run 5 (p' := g30p3) (env' := [(12, .bool false), (11, .tuple []), (10, .tuple []), (9, .tuple []), (8, .bool false), (8, .bool (decide (0 < x0_1))), (7, .bool (decide (0 < x0_1))), (6, .int .i64 x0_1), (3, .int .i64 x0_1), (5, .int .i64 x0_1), (4, .str a0), (2, .int .i64 0), (0, .str a0)]) (H' := (mkH [])) (by kernel_rfl) ?_
      refine ok_keep [3, 12] (env' := [(3, .int .i64 x0_1), (12, .bool false)]) (by kernel_rfl) ?_
      exact hj2 false
end Go.Proofs.Ytnikdnchoahngaa.Am
