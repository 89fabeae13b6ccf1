/- Function 28, plain, and that the program computes it. Printed by gen.py. -/
import Derived.Test.YtnikdnchoahngaaTy
set_option maxRecDepth 100000
set_option linter.unusedVariables false
namespace Go.Proofs.Ytnikdnchoahngaa.Am
open Go

/-! 28 galley/galleyref9.Prefix -/
noncomputable def X28 : Fx Int := ⟨Try.prog, cx, Try.f28, fun r => .int .i64 r, 0, fun _ => H0, cxTi, cxOrd⟩
noncomputable def g28p0 : Pt := nav [0] (bodyAt Try.f28)
noncomputable def g28p1 : Pt := nav [0, 0, 0, 0] g28p0
noncomputable def g28p2 : Pt := nav [0, 0] g28p1
noncomputable def g28p3 : Pt := nav [1, 0] g28p2
noncomputable def g28p4 : Pt := nav [2, 0, 0] g28p2
noncomputable def g28 (k : Nat) (a0 : (List Nat)) : Option Int :=
  jn (fun (z0 : Bool) => if z0 then (some (10 : Int)) else (some (0 : Int))) (fun j0 => if (eqL a0 [43]) then (j0 true) else (if (eqL a0 [45]) then (j0 true) else (if (eqL a0 [110, 111, 116]) then (j0 true) else (j0 (eqL a0 [98, 110, 111, 116])))))
theorem g28_ok (k : Nat) (a0 : (List Nat)) (r : Int) (h : g28 k a0 = some r) : PureOk Try.prog 28 [.str a0] (.int .i64 r) := by
  refine pure_of X28 (fun _ => rfl) Try.func28 (by decide +kernel) (by kernel_rfl) (t := g28 k a0) ?_ h
  unfold g28
  refine ok_env (env' := [(0, .str a0)]) (by kernel_rfl) ?_
  refine ok_run 10 (p' := (atN 3 (ctl1 g28p1))) (env' := [(5, .bool (eqL a0 [43])), (4, .bool (eqL a0 [43])), (3, .str a0), (2, .int .i64 0), (0, .str a0)]) (H' := (mkH [])) (by kernel_rfl) ?_
  refine ok_jn (f := fun (z0 : Bool) => if z0 then (some (10 : Int)) else (some (0 : Int))) g28p2 (fun (z0 : Bool) => [(16, .bool z0)]) (fun (z0 : Bool) => (mkH [])) (fun z0 => ?_) (fun j0 hj0 => ?_)
  · refine ok_split 16 (b := z0) (by kernel_rfl) (fun hb => ?_) (fun hb => ?_)
    · refine ok_run 6 (p' := .fin) (env' := [(2, .int .i64 10), (16, .bool true), (16, .bool z0)]) (H' := (mkH [])) (by kernel_rfl) ?_
      exact ok_ret (r := (10 : Int)) (xs := [.int .i64 10]) (v := .int .i64 10) (by kernel_rfl) (by kernel_rfl) (by kernel_rfl) (.pures (by kernel_rfl)) (by kernel_rfl)
    · refine ok_run 7 (p' := .fin) (env' := [(2, .int .i64 0), (16, .bool false), (16, .bool z0)]) (H' := (mkH [])) (by kernel_rfl) ?_
      exact ok_ret (r := (0 : Int)) (xs := [.int .i64 0]) (v := .int .i64 0) (by kernel_rfl) (by kernel_rfl) (by kernel_rfl) (.pures (by kernel_rfl)) (by kernel_rfl)
  · refine ok_split 5 (b := eqL a0 [43]) (by kernel_rfl) (fun hb => ?_) (fun hb => ?_)
    · refine ok_run 12 (p' := g28p2) (env' := [(16, .bool true), (15, .tuple []), (14, .tuple []), (13, .bool true), (12, .bool true), (11, .tuple []), (10, .tuple []), (9, .bool true), (8, .bool true), (7, .tuple []), (6, .tuple []), (5, .bool true), (5, .bool (eqL a0 [43])), (4, .bool (eqL a0 [43])), (3, .str a0), (2, .int .i64 0), (0, .str a0)]) (H' := (mkH [])) (by kernel_rfl) ?_
      refine ok_keep [16] (env' := [(16, .bool true)]) (by kernel_rfl) ?_
      exact hj0 true
    · refine ok_run 4 (p' := (atN 7 (ctl1 g28p1))) (env' := [(9, .bool (eqL a0 [45])), (8, .bool (eqL a0 [45])), (7, .bool (eqL a0 [45])), (6, .str a0), (5, .bool false), (5, .bool (eqL a0 [43])), (4, .bool (eqL a0 [43])), (3, .str a0), (2, .int .i64 0), (0, .str a0)]) (H' := (mkH [])) (by kernel_rfl) ?_
      refine ok_split 9 (b := eqL a0 [45]) (by kernel_rfl) (fun hb => ?_) (fun hb => ?_)
      · refine ok_run 8 (p' := g28p2) (env' := [(16, .bool true), (15, .tuple []), (14, .tuple []), (13, .bool true), (12, .bool true), (11, .tuple []), (10, .tuple []), (9, .bool true), (9, .bool (eqL a0 [45])), (8, .bool (eqL a0 [45])), (7, .bool (eqL a0 [45])), (6, .str a0), (5, .bool false), (5, .bool (eqL a0 [43])), (4, .bool (eqL a0 [43])), (3, .str a0), (2, .int .i64 0), (0, .str a0)]) (H' := (mkH [])) (by kernel_rfl) ?_
        refine ok_keep [16] (env' := [(16, .bool true)]) (by kernel_rfl) ?_
        exact hj0 true
      · refine ok_run 4 (p' := (atN 11 (ctl1 g28p1))) (env' := [(13, .bool (eqL a0 [110, 111, 116])), (12, .bool (eqL a0 [110, 111, 116])), (11, .bool (eqL a0 [110, 111, 116])), (10, .str a0), (9, .bool false), (9, .bool (eqL a0 [45])), (8, .bool (eqL a0 [45])), (7, .bool (eqL a0 [45])), (6, .str a0), (5, .bool false), (5, .bool (eqL a0 [43])), (4, .bool (eqL a0 [43])), (3, .str a0), (2, .int .i64 0), (0, .str a0)]) (H' := (mkH [])) (by kernel_rfl) ?_
        refine ok_split 13 (b := eqL a0 [110, 111, 116]) (by kernel_rfl) (fun hb => ?_) (fun hb => ?_)
        · refine ok_run 4 (p' := g28p2) (env' := [(16, .bool true), (15, .tuple []), (14, .tuple []), (13, .bool true), (13, .bool (eqL a0 [110, 111, 116])), (12, .bool (eqL a0 [110, 111, 116])), (11, .bool (eqL a0 [110, 111, 116])), (10, .str a0), (9, .bool false), (9, .bool (eqL a0 [45])), (8, .bool (eqL a0 [45])), (7, .bool (eqL a0 [45])), (6, .str a0), (5, .bool false), (5, .bool (eqL a0 [43])), (4, .bool (eqL a0 [43])), (3, .str a0), (2, .int .i64 0), (0, .str a0)]) (H' := (mkH [])) (by kernel_rfl) ?_
          refine ok_keep [16] (env' := [(16, .bool true)]) (by kernel_rfl) ?_
          exact hj0 true
        · refine ok_run 4 (p' := g28p2) (env' := [(16, .bool (eqL a0 [98, 110, 111, 116])), (15, .bool (eqL a0 [98, 110, 111, 116])), (14, .str a0), (13, .bool false), (13, .bool (eqL a0 [110, 111, 116])), (12, .bool (eqL a0 [110, 111, 116])), (11, .bool (eqL a0 [110, 111, 116])), (10, .str a0), (9, .bool false), (9, .bool (eqL a0 [45])), (8, .bool (eqL a0 [45])), (7, .bool (eqL a0 [45])), (6, .str a0), (5, .bool false), (5, .bool (eqL a0 [43])), (4, .bool (eqL a0 [43])), (3, .str a0), (2, .int .i64 0), (0, .str a0)]) (H' := (mkH [])) (by kernel_rfl) ?_
          refine ok_keep [16] (env' := [(16, .bool (eqL a0 [98, 110, 111, 116]))]) (by kernel_rfl) ?_
          exact hj0 (eqL a0 [98, 110, 111, 116])
end Go.Proofs.Ytnikdnchoahngaa.Am
