/- Function 66, plain, and that the program computes it. Printed by gen.py. -/
import Derived.Test.YtbmijiibfaacmaaTy
set_option maxRecDepth 100000
set_option linter.unusedVariables false
namespace Go.Proofs.Ytbmijiibfaacmaa.Am
open Go

/-! 66 galley/gap.in -/
noncomputable def X66 : Fx Bool := ⟨Try.prog, cx, Try.f66, fun r => .bool r, 0, fun _ => H0, cxTi, cxOrd⟩
noncomputable def g66p0 : Pt := nav [0] (bodyAt Try.f66)
noncomputable def g66p1 : Pt := nav [0, 0, 0] g66p0
noncomputable def g66 (k : Nat) (a0 : (List Nat)) (a1 : S46) : Option Bool :=
  if (decide (0 ≤ a1.f2)) then (if (decide (a1.f2 ≤ (a0.length : Int))) then (some (decide ((a1.f1.length : Int) ≤ fwrap .i64 ((a0.length : Int) - a1.f2)))) else (some false)) else (some false)
theorem g66_ok (k : Nat) (a0 : (List Nat)) (a1 : S46) (r : Bool) (h : g66 k a0 a1 = some r) : PureOk Try.prog 66 [.str a0, .agg [.int .i64 a1.f0, .str a1.f1, .int .i64 a1.f2]] (.bool r) := by
  refine pure_of X66 (fun _ => rfl) Try.func66 (by decide +kernel) (by kernel_rfl) (t := g66 k a0 a1) ?_ h
  unfold g66
  refine ok_env (env' := [(0, .str a0), (1, .agg [.int .i64 a1.f0, .str a1.f1, .int .i64 a1.f2])]) (by kernel_rfl) ?_
  refine ok_run 11 (p' := (atN 4 (ctl1 g66p1))) (env' := [(8, .bool (decide (0 ≤ a1.f2))), (7, .bool (decide (0 ≤ a1.f2))), (6, .int .i64 a1.f2), (5, .ptr 0 3 2), (4, .bool false), (3, .ptr 0 3 0), (0, .str a0), (1, .agg [.int .i64 a1.f0, .str a1.f1, .int .i64 a1.f2])]) (H' := (mkH [⟨[.int .i64 a1.f0, .str a1.f1, .int .i64 a1.f2], 0, false⟩])) (by kernel_rfl) ?_
  refine ok_split 8 (b := decide (0 ≤ a1.f2)) (by kernel_rfl) (fun hb => ?_) (fun hb => ?_)
  · refine ok_run 7 (p' := (atN 11 (ctl1 g66p1))) (env' := [(15, .bool (decide (a1.f2 ≤ (a0.length : Int)))), (14, .bool (decide (a1.f2 ≤ (a0.length : Int)))), (13, .bool (decide (a1.f2 ≤ (a0.length : Int)))), (12, .int .i64 (a0.length : Int)), (11, .str a0), (10, .int .i64 a1.f2), (9, .ptr 0 3 2), (8, .bool true), (8, .bool (decide (0 ≤ a1.f2))), (7, .bool (decide (0 ≤ a1.f2))), (6, .int .i64 a1.f2), (5, .ptr 0 3 2), (4, .bool false), (3, .ptr 0 3 0), (0, .str a0), (1, .agg [.int .i64 a1.f0, .str a1.f1, .int .i64 a1.f2])]) (H' := (mkH [⟨[.int .i64 a1.f0, .str a1.f1, .int .i64 a1.f2], 0, false⟩])) (by kernel_rfl) ?_
    refine ok_split 15 (b := decide (a1.f2 ≤ (a0.length : Int))) (by kernel_rfl) (fun hb => ?_) (fun hb => ?_)
    · refine ok_run 13 (p' := .fin) (env' := [(4, .bool (decide ((a1.f1.length : Int) ≤ fwrap .i64 ((a0.length : Int) - a1.f2)))), (25, .bool (decide ((a1.f1.length : Int) ≤ fwrap .i64 ((a0.length : Int) - a1.f2)))), (24, .bool (decide ((a1.f1.length : Int) ≤ fwrap .i64 ((a0.length : Int) - a1.f2)))), (23, .int .i64 (fwrap .i64 ((a0.length : Int) - a1.f2))), (22, .int .i64 a1.f2), (21, .ptr 0 3 2), (20, .int .i64 (a0.length : Int)), (19, .str a0), (18, .int .i64 (a1.f1.length : Int)), (17, .str a1.f1), (16, .ptr 0 3 1), (15, .bool true), (15, .bool (decide (a1.f2 ≤ (a0.length : Int)))), (14, .bool (decide (a1.f2 ≤ (a0.length : Int)))), (13, .bool (decide (a1.f2 ≤ (a0.length : Int)))), (12, .int .i64 (a0.length : Int)), (11, .str a0), (10, .int .i64 a1.f2), (9, .ptr 0 3 2), (8, .bool true), (8, .bool (decide (0 ≤ a1.f2))), (7, .bool (decide (0 ≤ a1.f2))), (6, .int .i64 a1.f2), (5, .ptr 0 3 2), (4, .bool false), (3, .ptr 0 3 0), (0, .str a0), (1, .agg [.int .i64 a1.f0, .str a1.f1, .int .i64 a1.f2])]) (H' := (mkH [⟨[.int .i64 a1.f0, .str a1.f1, .int .i64 a1.f2], 0, false⟩])) (by kernel_rfl) ?_
      refine ok_keep [4] (env' := [(4, .bool (decide ((a1.f1.length : Int) ≤ fwrap .i64 ((a0.length : Int) - a1.f2))))]) (by kernel_rfl) ?_
      exact ok_ret (r := (decide ((a1.f1.length : Int) ≤ fwrap .i64 ((a0.length : Int) - a1.f2)))) (xs := [.bool (decide ((a1.f1.length : Int) ≤ fwrap .i64 ((a0.length : Int) - a1.f2)))]) (v := .bool (decide ((a1.f1.length : Int) ≤ fwrap .i64 ((a0.length : Int) - a1.f2)))) (by kernel_rfl) (by kernel_rfl) (by kernel_rfl) (.pures (by kernel_rfl)) (by kernel_rfl)
    · refine ok_run 13 (p' := .fin) (env' := [(4, .bool false), (25, .bool false), (24, .tuple []), (23, .tuple []), (22, .tuple []), (21, .tuple []), (20, .tuple []), (19, .tuple []), (18, .tuple []), (17, .tuple []), (16, .tuple []), (15, .bool false), (15, .bool (decide (a1.f2 ≤ (a0.length : Int)))), (14, .bool (decide (a1.f2 ≤ (a0.length : Int)))), (13, .bool (decide (a1.f2 ≤ (a0.length : Int)))), (12, .int .i64 (a0.length : Int)), (11, .str a0), (10, .int .i64 a1.f2), (9, .ptr 0 3 2), (8, .bool true), (8, .bool (decide (0 ≤ a1.f2))), (7, .bool (decide (0 ≤ a1.f2))), (6, .int .i64 a1.f2), (5, .ptr 0 3 2), (4, .bool false), (3, .ptr 0 3 0), (0, .str a0), (1, .agg [.int .i64 a1.f0, .str a1.f1, .int .i64 a1.f2])]) (H' := (mkH [⟨[.int .i64 a1.f0, .str a1.f1, .int .i64 a1.f2], 0, false⟩])) (by kernel_rfl) ?_
      refine ok_keep [4] (env' := [(4, .bool false)]) (by kernel_rfl) ?_
      exact ok_ret (r := false) (xs := [.bool false]) (v := .bool false) (by kernel_rfl) (by kernel_rfl) (by kernel_rfl) (.pures (by kernel_rfl)) (by kernel_rfl)
  · refine ok_run 20 (p' := .fin) (env' := [(4, .bool false), (25, .bool false), (24, .tuple []), (23, .tuple []), (22, .tuple []), (21, .tuple []), (20, .tuple []), (19, .tuple []), (18, .tuple []), (17, .tuple []), (16, .tuple []), (15, .bool false), (14, .bool false), (13, .tuple []), (12, .tuple []), (11, .tuple []), (10, .tuple []), (9, .tuple []), (8, .bool false), (8, .bool (decide (0 ≤ a1.f2))), (7, .bool (decide (0 ≤ a1.f2))), (6, .int .i64 a1.f2), (5, .ptr 0 3 2), (4, .bool false), (3, .ptr 0 3 0), (0, .str a0), (1, .agg [.int .i64 a1.f0, .str a1.f1, .int .i64 a1.f2])]) (H' := (mkH [⟨[.int .i64 a1.f0, .str a1.f1, .int .i64 a1.f2], 0, false⟩])) (by kernel_rfl) ?_
    refine ok_keep [4] (env' := [(4, .bool false)]) (by kernel_rfl) ?_
    exact ok_ret (r := false) (xs := [.bool false]) (v := .bool false) (by kernel_rfl) (by kernel_rfl) (by kernel_rfl) (.pures (by kernel_rfl)) (by kernel_rfl)
end Go.Proofs.Ytbmijiibfaacmaa.Am
