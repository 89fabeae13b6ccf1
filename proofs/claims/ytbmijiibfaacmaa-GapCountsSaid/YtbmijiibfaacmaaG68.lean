/- Function 68, plain, and that the program computes it. Printed by gen.py. -/
import Derived.Test.YtbmijiibfaacmaaTy
set_option maxRecDepth 100000
set_option linter.unusedVariables false
namespace Go.Proofs.Ytbmijiibfaacmaa.Am
open Go

/-! 68 galley/sign.Pair -/
noncomputable def X68 : Fx (List Nat) := ⟨Try.prog, cx, Try.f68, fun r => .str r, 0, fun _ => H0, cxTi, cxOrd⟩
noncomputable def g68p0 : Pt := nav [0] (bodyAt Try.f68)
noncomputable def g68p1 : Pt := nav [0, 0, 0, 0] g68p0
noncomputable def g68p2 : Pt := nav [0, 0, 0, 0] g68p1
noncomputable def g68p3 : Pt := nav [0, 0] g68p2
noncomputable def g68p4 : Pt := nav [1, 0] g68p3
noncomputable def g68p5 : Pt := nav [2, 0] g68p3
noncomputable def g68p7 : Pt := nav [0, 0] g68p5
noncomputable def g68p8 : Pt := nav [1, 0] g68p7
noncomputable def g68p9 : Pt := nav [2, 0] g68p7
noncomputable def g68p10 : Pt := nav [0, 0] g68p9
noncomputable def g68p11 : Pt := nav [1, 0] g68p10
noncomputable def g68p12 : Pt := nav [2, 0] g68p10
noncomputable def g68p13 : Pt := nav [0, 0] g68p12
noncomputable def g68p14 : Pt := nav [1, 0] g68p13
noncomputable def g68p15 : Pt := nav [2, 0, 0] g68p13
noncomputable def g68 (k : Nat) (a0 : (List Nat)) : Option (List Nat) :=
  if (eqL a0 [40]) then (some ([41] : List Nat)) else (if (eqL a0 [123]) then (some ([125] : List Nat)) else (if (eqL a0 [91]) then (some ([93] : List Nat)) else (if (eqL a0 [60, 60]) then (some ([62, 62] : List Nat)) else (some ([] : List Nat)))))
theorem g68_ok (k : Nat) (a0 : (List Nat)) (r : (List Nat)) (h : g68 k a0 = some r) : PureOk Try.prog 68 [.str a0] (.str r) := by
  refine pure_of X68 (fun _ => rfl) Try.func68 (by decide +kernel) (by kernel_rfl) (t := g68 k a0) ?_ h
  unfold g68
  refine ok_env (env' := [(0, .str a0)]) (by kernel_rfl) ?_
  refine ok_run 15 (p' := g68p3) (env' := [(4, .bool (eqL a0 [40])), (5, .bool (eqL a0 [40])), (3, .str a0), (2, .str []), (0, .str a0)]) (H' := (mkH [])) (by kernel_rfl) ?_
  refine ok_split 4 (b := eqL a0 [40]) (by kernel_rfl) (fun hb => ?_) (fun hb => ?_)
  · refine ok_run 6 (p' := .fin) (env' := [(2, .str [41]), (4, .bool true), (4, .bool (eqL a0 [40])), (5, .bool (eqL a0 [40])), (3, .str a0), (2, .str []), (0, .str a0)]) (H' := (mkH [])) (by kernel_rfl) ?_
    exact ok_ret (r := ([41] : List Nat)) (xs := [.str [41]]) (v := .str [41]) (by kernel_rfl) (by kernel_rfl) (by kernel_rfl) (.pures (by kernel_rfl)) (by kernel_rfl)
  · refine ok_run 6 (p' := g68p7) (env' := [(6, .bool (eqL a0 [123])), (7, .bool (eqL a0 [123])), (4, .bool false), (4, .bool (eqL a0 [40])), (5, .bool (eqL a0 [40])), (3, .str a0), (2, .str []), (0, .str a0)]) (H' := (mkH [])) (by kernel_rfl) ?_
    refine ok_split 6 (b := eqL a0 [123]) (by kernel_rfl) (fun hb => ?_) (fun hb => ?_)
    · refine ok_run 6 (p' := .fin) (env' := [(2, .str [125]), (6, .bool true), (6, .bool (eqL a0 [123])), (7, .bool (eqL a0 [123])), (4, .bool false), (4, .bool (eqL a0 [40])), (5, .bool (eqL a0 [40])), (3, .str a0), (2, .str []), (0, .str a0)]) (H' := (mkH [])) (by kernel_rfl) ?_
      exact ok_ret (r := ([125] : List Nat)) (xs := [.str [125]]) (v := .str [125]) (by kernel_rfl) (by kernel_rfl) (by kernel_rfl) (.pures (by kernel_rfl)) (by kernel_rfl)
    · refine ok_run 6 (p' := g68p10) (env' := [(8, .bool (eqL a0 [91])), (9, .bool (eqL a0 [91])), (6, .bool false), (6, .bool (eqL a0 [123])), (7, .bool (eqL a0 [123])), (4, .bool false), (4, .bool (eqL a0 [40])), (5, .bool (eqL a0 [40])), (3, .str a0), (2, .str []), (0, .str a0)]) (H' := (mkH [])) (by kernel_rfl) ?_
      refine ok_split 8 (b := eqL a0 [91]) (by kernel_rfl) (fun hb => ?_) (fun hb => ?_)
      · refine ok_run 6 (p' := .fin) (env' := [(2, .str [93]), (8, .bool true), (8, .bool (eqL a0 [91])), (9, .bool (eqL a0 [91])), (6, .bool false), (6, .bool (eqL a0 [123])), (7, .bool (eqL a0 [123])), (4, .bool false), (4, .bool (eqL a0 [40])), (5, .bool (eqL a0 [40])), (3, .str a0), (2, .str []), (0, .str a0)]) (H' := (mkH [])) (by kernel_rfl) ?_
        exact ok_ret (r := ([93] : List Nat)) (xs := [.str [93]]) (v := .str [93]) (by kernel_rfl) (by kernel_rfl) (by kernel_rfl) (.pures (by kernel_rfl)) (by kernel_rfl)
      · refine ok_run 6 (p' := g68p13) (env' := [(10, .bool (eqL a0 [60, 60])), (11, .bool (eqL a0 [60, 60])), (8, .bool false), (8, .bool (eqL a0 [91])), (9, .bool (eqL a0 [91])), (6, .bool false), (6, .bool (eqL a0 [123])), (7, .bool (eqL a0 [123])), (4, .bool false), (4, .bool (eqL a0 [40])), (5, .bool (eqL a0 [40])), (3, .str a0), (2, .str []), (0, .str a0)]) (H' := (mkH [])) (by kernel_rfl) ?_
        refine ok_split 10 (b := eqL a0 [60, 60]) (by kernel_rfl) (fun hb => ?_) (fun hb => ?_)
        · refine ok_run 6 (p' := .fin) (env' := [(2, .str [62, 62]), (10, .bool true), (10, .bool (eqL a0 [60, 60])), (11, .bool (eqL a0 [60, 60])), (8, .bool false), (8, .bool (eqL a0 [91])), (9, .bool (eqL a0 [91])), (6, .bool false), (6, .bool (eqL a0 [123])), (7, .bool (eqL a0 [123])), (4, .bool false), (4, .bool (eqL a0 [40])), (5, .bool (eqL a0 [40])), (3, .str a0), (2, .str []), (0, .str a0)]) (H' := (mkH [])) (by kernel_rfl) ?_
          exact ok_ret (r := ([62, 62] : List Nat)) (xs := [.str [62, 62]]) (v := .str [62, 62]) (by kernel_rfl) (by kernel_rfl) (by kernel_rfl) (.pures (by kernel_rfl)) (by kernel_rfl)
        · refine ok_run 7 (p' := .fin) (env' := [(2, .str []), (10, .bool false), (10, .bool (eqL a0 [60, 60])), (11, .bool (eqL a0 [60, 60])), (8, .bool false), (8, .bool (eqL a0 [91])), (9, .bool (eqL a0 [91])), (6, .bool false), (6, .bool (eqL a0 [123])), (7, .bool (eqL a0 [123])), (4, .bool false), (4, .bool (eqL a0 [40])), (5, .bool (eqL a0 [40])), (3, .str a0), (2, .str []), (0, .str a0)]) (H' := (mkH [])) (by kernel_rfl) ?_
          exact ok_ret (r := ([] : List Nat)) (xs := [.str []]) (v := .str []) (by kernel_rfl) (by kernel_rfl) (by kernel_rfl) (.pures (by kernel_rfl)) (by kernel_rfl)
end Go.Proofs.Ytbmijiibfaacmaa.Am
