/- Function 64, plain, and that the program computes it. Printed by gen.py. -/
import Derived.Test.YtbmijiibfaacmaaTy
set_option maxRecDepth 100000
set_option linter.unusedVariables false
namespace Go.Proofs.Ytbmijiibfaacmaa.Am
open Go

/-! 64 galley/galleyref1.Letter -/
noncomputable def X64 : Fx Bool := ⟨Try.prog, cx, Try.f64, fun r => .bool r, 0, fun _ => H0, cxTi, cxOrd⟩
noncomputable def g64p0 : Pt := nav [0] (bodyAt Try.f64)
noncomputable def g64p1 : Pt := nav [0, 0, 0] g64p0
noncomputable def g64 (k : Nat) (a0 : Int) : Option Bool :=
  if (decide (97 ≤ a0)) then (if (decide (a0 ≤ 122)) then (some true) else (if (decide (65 ≤ a0)) then (some (decide (a0 ≤ 90))) else (some false))) else (if (decide (65 ≤ a0)) then (some (decide (a0 ≤ 90))) else (some false))
theorem g64_ok (k : Nat) (a0 : Int) (r : Bool) (h : g64 k a0 = some r) : PureOk Try.prog 64 [.int .u8 a0] (.bool r) := by
  refine pure_of X64 (fun _ => rfl) Try.func64 (by decide +kernel) (by kernel_rfl) (t := g64 k a0) ?_ h
  unfold g64
  refine ok_env (env' := [(0, .int .u8 a0)]) (by kernel_rfl) ?_
  refine ok_run 9 (p' := (atN 3 (ctl1 g64p1))) (env' := [(5, .bool (decide (97 ≤ a0))), (4, .bool (decide (97 ≤ a0))), (3, .int .u8 a0), (2, .bool false), (0, .int .u8 a0)]) (H' := (mkH [])) (by kernel_rfl) ?_
  refine ok_split 5 (b := decide (97 ≤ a0)) (by kernel_rfl) (fun hb => ?_) (fun hb => ?_)
  · refine ok_run 4 (p' := (atN 7 (ctl1 g64p1))) (env' := [(9, .bool (decide (a0 ≤ 122))), (8, .bool (decide (a0 ≤ 122))), (7, .bool (decide (a0 ≤ 122))), (6, .int .u8 a0), (5, .bool true), (5, .bool (decide (97 ≤ a0))), (4, .bool (decide (97 ≤ a0))), (3, .int .u8 a0), (2, .bool false), (0, .int .u8 a0)]) (H' := (mkH [])) (by kernel_rfl) ?_
    refine ok_split 9 (b := decide (a0 ≤ 122)) (by kernel_rfl) (fun hb => ?_) (fun hb => ?_)
    · refine ok_run 10 (p' := .fin) (env' := [(2, .bool true), (16, .bool true), (15, .tuple []), (14, .tuple []), (13, .tuple []), (12, .tuple []), (11, .tuple []), (10, .tuple []), (9, .bool true), (9, .bool (decide (a0 ≤ 122))), (8, .bool (decide (a0 ≤ 122))), (7, .bool (decide (a0 ≤ 122))), (6, .int .u8 a0), (5, .bool true), (5, .bool (decide (97 ≤ a0))), (4, .bool (decide (97 ≤ a0))), (3, .int .u8 a0), (2, .bool false), (0, .int .u8 a0)]) (H' := (mkH [])) (by kernel_rfl) ?_
      exact ok_ret (r := true) (xs := [.bool true]) (v := .bool true) (by kernel_rfl) (by kernel_rfl) (by kernel_rfl) (.pures (by kernel_rfl)) (by kernel_rfl)
    · refine ok_run 3 (p' := (atN 10 (ctl1 g64p1))) (env' := [(12, .bool (decide (65 ≤ a0))), (11, .bool (decide (65 ≤ a0))), (10, .int .u8 a0), (9, .bool false), (9, .bool (decide (a0 ≤ 122))), (8, .bool (decide (a0 ≤ 122))), (7, .bool (decide (a0 ≤ 122))), (6, .int .u8 a0), (5, .bool true), (5, .bool (decide (97 ≤ a0))), (4, .bool (decide (97 ≤ a0))), (3, .int .u8 a0), (2, .bool false), (0, .int .u8 a0)]) (H' := (mkH [])) (by kernel_rfl) ?_
      refine ok_split 12 (b := decide (65 ≤ a0)) (by kernel_rfl) (fun hb => ?_) (fun hb => ?_)
      · refine ok_run 7 (p' := .fin) (env' := [(2, .bool (decide (a0 ≤ 90))), (16, .bool (decide (a0 ≤ 90))), (15, .bool (decide (a0 ≤ 90))), (14, .bool (decide (a0 ≤ 90))), (13, .int .u8 a0), (12, .bool true), (12, .bool (decide (65 ≤ a0))), (11, .bool (decide (65 ≤ a0))), (10, .int .u8 a0), (9, .bool false), (9, .bool (decide (a0 ≤ 122))), (8, .bool (decide (a0 ≤ 122))), (7, .bool (decide (a0 ≤ 122))), (6, .int .u8 a0), (5, .bool true), (5, .bool (decide (97 ≤ a0))), (4, .bool (decide (97 ≤ a0))), (3, .int .u8 a0), (2, .bool false), (0, .int .u8 a0)]) (H' := (mkH [])) (by kernel_rfl) ?_
        exact ok_ret (r := (decide (a0 ≤ 90))) (xs := [.bool (decide (a0 ≤ 90))]) (v := .bool (decide (a0 ≤ 90))) (by kernel_rfl) (by kernel_rfl) (by kernel_rfl) (.pures (by kernel_rfl)) (by kernel_rfl)
      · refine ok_run 7 (p' := .fin) (env' := [(2, .bool false), (16, .bool false), (15, .bool false), (14, .tuple []), (13, .tuple []), (12, .bool false), (12, .bool (decide (65 ≤ a0))), (11, .bool (decide (65 ≤ a0))), (10, .int .u8 a0), (9, .bool false), (9, .bool (decide (a0 ≤ 122))), (8, .bool (decide (a0 ≤ 122))), (7, .bool (decide (a0 ≤ 122))), (6, .int .u8 a0), (5, .bool true), (5, .bool (decide (97 ≤ a0))), (4, .bool (decide (97 ≤ a0))), (3, .int .u8 a0), (2, .bool false), (0, .int .u8 a0)]) (H' := (mkH [])) (by kernel_rfl) ?_
        exact ok_ret (r := false) (xs := [.bool false]) (v := .bool false) (by kernel_rfl) (by kernel_rfl) (by kernel_rfl) (.pures (by kernel_rfl)) (by kernel_rfl)
  · refine ok_run 7 (p' := (atN 10 (ctl1 g64p1))) (env' := [(12, .bool (decide (65 ≤ a0))), (11, .bool (decide (65 ≤ a0))), (10, .int .u8 a0), (9, .bool false), (8, .bool false), (7, .tuple []), (6, .tuple []), (5, .bool false), (5, .bool (decide (97 ≤ a0))), (4, .bool (decide (97 ≤ a0))), (3, .int .u8 a0), (2, .bool false), (0, .int .u8 a0)]) (H' := (mkH [])) (by kernel_rfl) ?_
    refine ok_split 12 (b := decide (65 ≤ a0)) (by kernel_rfl) (fun hb => ?_) (fun hb => ?_)
    · refine ok_run 7 (p' := .fin) (env' := [(2, .bool (decide (a0 ≤ 90))), (16, .bool (decide (a0 ≤ 90))), (15, .bool (decide (a0 ≤ 90))), (14, .bool (decide (a0 ≤ 90))), (13, .int .u8 a0), (12, .bool true), (12, .bool (decide (65 ≤ a0))), (11, .bool (decide (65 ≤ a0))), (10, .int .u8 a0), (9, .bool false), (8, .bool false), (7, .tuple []), (6, .tuple []), (5, .bool false), (5, .bool (decide (97 ≤ a0))), (4, .bool (decide (97 ≤ a0))), (3, .int .u8 a0), (2, .bool false), (0, .int .u8 a0)]) (H' := (mkH [])) (by kernel_rfl) ?_
      exact ok_ret (r := (decide (a0 ≤ 90))) (xs := [.bool (decide (a0 ≤ 90))]) (v := .bool (decide (a0 ≤ 90))) (by kernel_rfl) (by kernel_rfl) (by kernel_rfl) (.pures (by kernel_rfl)) (by kernel_rfl)
    · refine ok_run 7 (p' := .fin) (env' := [(2, .bool false), (16, .bool false), (15, .bool false), (14, .tuple []), (13, .tuple []), (12, .bool false), (12, .bool (decide (65 ≤ a0))), (11, .bool (decide (65 ≤ a0))), (10, .int .u8 a0), (9, .bool false), (8, .bool false), (7, .tuple []), (6, .tuple []), (5, .bool false), (5, .bool (decide (97 ≤ a0))), (4, .bool (decide (97 ≤ a0))), (3, .int .u8 a0), (2, .bool false), (0, .int .u8 a0)]) (H' := (mkH [])) (by kernel_rfl) ?_
      exact ok_ret (r := false) (xs := [.bool false]) (v := .bool false) (by kernel_rfl) (by kernel_rfl) (by kernel_rfl) (.pures (by kernel_rfl)) (by kernel_rfl)
end Go.Proofs.Ytbmijiibfaacmaa.Am
