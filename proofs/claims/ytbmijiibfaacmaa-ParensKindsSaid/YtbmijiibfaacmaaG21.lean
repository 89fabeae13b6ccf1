/- Function 21, plain, and that the program computes it. Printed by gen.py. -/
import Derived.Test.YtbmijiibfaacmaaTy
import Derived.Test.YtbmijiibfaacmaaG19
set_option maxRecDepth 100000
set_option linter.unusedVariables false
namespace Go.Proofs.Ytbmijiibfaacmaa.Am
open Go

/-! 21 galley/parens.Need -/
noncomputable def X21 : Fx Bool := ⟨Try.prog, cx, Try.f21, fun r => .bool r, cxTi, cxOrd⟩
noncomputable def g21p0 : Pt := nav [0] (bodyAt Try.f21)
noncomputable def g21p1 : Pt := nav [0, 0, 0] g21p0
noncomputable def g21 (k : Nat) (a0 : S24) (a1 : Int) : Option Bool :=
  (g19 k (⟨a0.f0, a0.f1, a0.f2, a0.f3, a0.f4, a0.f5, a0.f6⟩ : S24)).bind fun x0_1 => some (decide (x0_1 < a1))
theorem g21_ok (k : Nat) (a0 : S24) (a1 : Int) (r : Bool) (h : g21 k a0 a1 = some r) : PureOk Try.prog 21 [.agg [.int .i64 a0.f0, .str a0.f1, .vec (a0.f2).n 7 (a0.f2).cells, .bool a0.f3, .bool a0.f4, .vec (a0.f5).length 1 ((a0.f5).flatMap e9), .vec (a0.f6).length 1 ((a0.f6).flatMap e9)], .int .i64 a1] (.bool r) := by
  refine pure_of X21 Try.func21 (by decide +kernel) (by kernel_rfl) (t := g21 k a0 a1) ?_ h
  unfold g21
  refine ok_env (env' := [(0, .agg [.int .i64 a0.f0, .str a0.f1, .vec (a0.f2).n 7 (a0.f2).cells, .bool a0.f3, .bool a0.f4, .vec (a0.f5).length 1 ((a0.f5).flatMap e9), .vec (a0.f6).length 1 ((a0.f6).flatMap e9)]), (1, .int .i64 a1)]) (by kernel_rfl) ?_
  refine ok_run 8 (p' := (atN 1 (ctl1 g21p1))) (env' := [(5, .agg [.int .i64 a0.f0, .str a0.f1, .vec (a0.f2).n 7 (a0.f2).cells, .bool a0.f3, .bool a0.f4, .vec (a0.f5).length 1 ((a0.f5).flatMap e9), .vec (a0.f6).length 1 ((a0.f6).flatMap e9)]), (4, .bool false), (2, .ptr 0 7 0), (0, .agg [.int .i64 a0.f0, .str a0.f1, .vec (a0.f2).n 7 (a0.f2).cells, .bool a0.f3, .bool a0.f4, .vec (a0.f5).length 1 ((a0.f5).flatMap e9), .vec (a0.f6).length 1 ((a0.f6).flatMap e9)]), (1, .int .i64 a1)]) (H' := (mkH [⟨[.int .i64 a0.f0, .str a0.f1, .vec (a0.f2).n 7 (a0.f2).cells, .bool a0.f3, .bool a0.f4, .vec (a0.f5).length 1 ((a0.f5).flatMap e9), .vec (a0.f6).length 1 ((a0.f6).flatMap e9)], 0, false⟩])) (by kernel_rfl) ?_
  refine ok_call (fun (x0_1 : Int) => .int .i64 x0_1) (atN 2 (ctl1 g21p1)) (fun x0_1 => [(6, .int .i64 x0_1), (5, .agg [.int .i64 a0.f0, .str a0.f1, .vec (a0.f2).n 7 (a0.f2).cells, .bool a0.f3, .bool a0.f4, .vec (a0.f5).length 1 ((a0.f5).flatMap e9), .vec (a0.f6).length 1 ((a0.f6).flatMap e9)]), (4, .bool false), (2, .ptr 0 7 0), (0, .agg [.int .i64 a0.f0, .str a0.f1, .vec (a0.f2).n 7 (a0.f2).cells, .bool a0.f3, .bool a0.f4, .vec (a0.f5).length 1 ((a0.f5).flatMap e9), .vec (a0.f6).length 1 ((a0.f6).flatMap e9)]), (1, .int .i64 a1)]) (fi := 19) (args := [.agg [.int .i64 a0.f0, .str a0.f1, .vec (a0.f2).n 7 (a0.f2).cells, .bool a0.f3, .bool a0.f4, .vec (a0.f5).length 1 ((a0.f5).flatMap e9), .vec (a0.f6).length 1 ((a0.f6).flatMap e9)]]) (by kernel_rfl) (by kernel_rfl) (fun _ => by kernel_rfl) (fun r h => g19_ok k (⟨a0.f0, a0.f1, a0.f2, a0.f3, a0.f4, a0.f5, a0.f6⟩ : S24) r h) (fun _ => by kernel_rfl) (fun x0_1 hx0_1 => ?_)
  refine ok_run 5 (p' := .fin) (env' := [(4, .bool (decide (x0_1 < a1))), (8, .bool (decide (x0_1 < a1))), (7, .int .i64 a1), (6, .int .i64 x0_1), (5, .agg [.int .i64 a0.f0, .str a0.f1, .vec (a0.f2).n 7 (a0.f2).cells, .bool a0.f3, .bool a0.f4, .vec (a0.f5).length 1 ((a0.f5).flatMap e9), .vec (a0.f6).length 1 ((a0.f6).flatMap e9)]), (4, .bool false), (2, .ptr 0 7 0), (0, .agg [.int .i64 a0.f0, .str a0.f1, .vec (a0.f2).n 7 (a0.f2).cells, .bool a0.f3, .bool a0.f4, .vec (a0.f5).length 1 ((a0.f5).flatMap e9), .vec (a0.f6).length 1 ((a0.f6).flatMap e9)]), (1, .int .i64 a1)]) (H' := (mkH [⟨[.int .i64 a0.f0, .str a0.f1, .vec (a0.f2).n 7 (a0.f2).cells, .bool a0.f3, .bool a0.f4, .vec (a0.f5).length 1 ((a0.f5).flatMap e9), .vec (a0.f6).length 1 ((a0.f6).flatMap e9)], 0, false⟩])) (by kernel_rfl) ?_
  exact ok_ret (r := (decide (x0_1 < a1))) (xs := [.bool (decide (x0_1 < a1))]) (v := .bool (decide (x0_1 < a1))) (by kernel_rfl) (.pures (by kernel_rfl)) (by kernel_rfl)
end Go.Proofs.Ytbmijiibfaacmaa.Am
