/- Function 27, plain, and that the program computes it. Printed by gen.py. -/
import Derived.Test.YtnikdnchoahngaaTy
set_option maxRecDepth 100000
set_option linter.unusedVariables false
namespace Go.Proofs.Ytnikdnchoahngaa.Am
open Go

/-! 27 galley/ops.Prefix -/
noncomputable def X27 : Fx Int := ⟨Try.prog, cx, Try.f27, fun r => .int .i64 r, 0, fun _ => H0, cxTi, cxOrd⟩
noncomputable def g27p0 : Pt := nav [0] (bodyAt Try.f27)
noncomputable def g27p1 : Pt := nav [0, 0, 0, 0] g27p0
noncomputable def g27p2 : Pt := nav [0, 0, 0, 0, 0] g27p1
noncomputable def g27p3 : Pt := nav [0, 0] g27p2
noncomputable def g27p4 : Pt := nav [1, 0] g27p3
noncomputable def g27p5 : Pt := nav [2, 0] g27p3
noncomputable def g27p6 : Pt := nav [1, 0] g27p4
noncomputable def g27p7 : Pt := nav [2, 0, 0] g27p4
noncomputable def g27p8 : Pt := nav [0, 0] g27p5
noncomputable def g27p10 : Pt := nav [2, 0] g27p8
noncomputable def g27p11 : Pt := nav [0, 0] g27p10
noncomputable def g27p12 : Pt := nav [2] g27p11
noncomputable def g27 (k : Nat) (a0 : (List Nat)) : Option Int :=
  jn (fun (z0 : Bool) => if z0 then (some (10 : Int)) else (some (0 : Int))) (fun j0 => if (eqL a0 [43]) then (j0 true) else (if (eqL a0 [45]) then (j0 true) else (if (eqL a0 [110, 111, 116]) then (j0 true) else (j0 (eqL a0 [98, 110, 111, 116])))))
theorem g27_ok (k : Nat) (a0 : (List Nat)) (r : Int) (h : g27 k a0 = some r) : PureOk Try.prog 27 [.str a0] (.int .i64 r) := by
  refine pure_of X27 (fun _ => rfl) Try.func27 (by decide +kernel) (by kernel_rfl) (t := g27 k a0) ?_ h
  unfold g27
  refine ok_env (env' := [(0, .str a0)]) (by kernel_rfl) ?_
  refine ok_run 16 (p' := g27p3) (env' := [(4, .bool (eqL a0 [43])), (5, .bool (eqL a0 [43])), (3, .str a0), (2, .int .i64 0), (0, .str a0)]) (H' := (mkH [])) (by kernel_rfl) ?_
  refine ok_jn (f := fun (z0 : Bool) => if z0 then (some (10 : Int)) else (some (0 : Int))) g27p4 (fun (z0 : Bool) => [(4, .bool z0)]) (fun (z0 : Bool) => (mkH [])) (fun z0 => ?_) (fun j0 hj0 => ?_)
  · refine ok_split 4 (b := z0) (by kernel_rfl) (fun hb => ?_) (fun hb => ?_)
    · refine ok_run 6 (p' := .fin) (env' := [(2, .int .i64 10), (4, .bool true), (4, .bool z0)]) (H' := (mkH [])) (by kernel_rfl) ?_
      exact ok_ret (r := (10 : Int)) (xs := [.int .i64 10]) (v := .int .i64 10) (by kernel_rfl) (by kernel_rfl) (by kernel_rfl) (.pures (by kernel_rfl)) (by kernel_rfl)
    · refine ok_run 7 (p' := .fin) (env' := [(2, .int .i64 0), (4, .bool false), (4, .bool z0)]) (H' := (mkH [])) (by kernel_rfl) ?_
      exact ok_ret (r := (0 : Int)) (xs := [.int .i64 0]) (v := .int .i64 0) (by kernel_rfl) (by kernel_rfl) (by kernel_rfl) (.pures (by kernel_rfl)) (by kernel_rfl)
  · refine ok_split 4 (b := eqL a0 [43]) (by kernel_rfl) (fun hb => ?_) (fun hb => ?_)
    · refine ok_run 2 (p' := g27p4) (env' := [(4, .bool true), (4, .bool (eqL a0 [43])), (5, .bool (eqL a0 [43])), (3, .str a0), (2, .int .i64 0), (0, .str a0)]) (H' := (mkH [])) (by kernel_rfl) ?_
      refine ok_keep [4] (env' := [(4, .bool true)]) (by kernel_rfl) ?_
      exact hj0 true
    · refine ok_run 6 (p' := g27p8) (env' := [(4, .bool (eqL a0 [45])), (6, .bool (eqL a0 [45])), (4, .bool false), (4, .bool (eqL a0 [43])), (5, .bool (eqL a0 [43])), (3, .str a0), (2, .int .i64 0), (0, .str a0)]) (H' := (mkH [])) (by kernel_rfl) ?_
      refine ok_split 4 (b := eqL a0 [45]) (by kernel_rfl) (fun hb => ?_) (fun hb => ?_)
      · refine ok_run 2 (p' := g27p4) (env' := [(4, .bool true), (4, .bool (eqL a0 [45])), (6, .bool (eqL a0 [45])), (4, .bool false), (4, .bool (eqL a0 [43])), (5, .bool (eqL a0 [43])), (3, .str a0), (2, .int .i64 0), (0, .str a0)]) (H' := (mkH [])) (by kernel_rfl) ?_
        refine ok_keep [4] (env' := [(4, .bool true)]) (by kernel_rfl) ?_
        exact hj0 true
      · refine ok_run 6 (p' := g27p11) (env' := [(4, .bool (eqL a0 [110, 111, 116])), (7, .bool (eqL a0 [110, 111, 116])), (4, .bool false), (4, .bool (eqL a0 [45])), (6, .bool (eqL a0 [45])), (4, .bool false), (4, .bool (eqL a0 [43])), (5, .bool (eqL a0 [43])), (3, .str a0), (2, .int .i64 0), (0, .str a0)]) (H' := (mkH [])) (by kernel_rfl) ?_
        refine ok_split 4 (b := eqL a0 [110, 111, 116]) (by kernel_rfl) (fun hb => ?_) (fun hb => ?_)
        · refine ok_run 2 (p' := g27p4) (env' := [(4, .bool true), (4, .bool (eqL a0 [110, 111, 116])), (7, .bool (eqL a0 [110, 111, 116])), (4, .bool false), (4, .bool (eqL a0 [45])), (6, .bool (eqL a0 [45])), (4, .bool false), (4, .bool (eqL a0 [43])), (5, .bool (eqL a0 [43])), (3, .str a0), (2, .int .i64 0), (0, .str a0)]) (H' := (mkH [])) (by kernel_rfl) ?_
          refine ok_keep [4] (env' := [(4, .bool true)]) (by kernel_rfl) ?_
          exact hj0 true
        · refine ok_run 5 (p' := g27p4) (env' := [(4, .bool (eqL a0 [98, 110, 111, 116])), (8, .bool (eqL a0 [98, 110, 111, 116])), (4, .bool false), (4, .bool (eqL a0 [110, 111, 116])), (7, .bool (eqL a0 [110, 111, 116])), (4, .bool false), (4, .bool (eqL a0 [45])), (6, .bool (eqL a0 [45])), (4, .bool false), (4, .bool (eqL a0 [43])), (5, .bool (eqL a0 [43])), (3, .str a0), (2, .int .i64 0), (0, .str a0)]) (H' := (mkH [])) (by kernel_rfl) ?_
          refine ok_keep [4] (env' := [(4, .bool (eqL a0 [98, 110, 111, 116]))]) (by kernel_rfl) ?_
          exact hj0 (eqL a0 [98, 110, 111, 116])
end Go.Proofs.Ytnikdnchoahngaa.Am
