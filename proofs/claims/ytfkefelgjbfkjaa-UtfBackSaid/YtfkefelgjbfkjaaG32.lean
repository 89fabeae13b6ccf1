/- Function 32, plain, and that the program computes it. Printed by gen.py. -/
import Derived.Test.YtfkefelgjbfkjaaTy
set_option maxRecDepth 100000
set_option linter.unusedVariables false
namespace Go.Proofs.Ytfkefelgjbfkjaa.Am
open Go

/-! 32 galley/utf.least -/
noncomputable def X32 : Fx Int := ⟨Try.prog, cx, Try.f32, fun r => .int .i64 r, 0, fun _ => H0, cxTi, cxOrd⟩
def g32c0 : List Int := [(0 : Int), (0 : Int), (128 : Int), (2048 : Int), (65536 : Int)]
noncomputable def g32p0 : Pt := nav [0] (bodyAt Try.f32)
noncomputable def g32p1 : Pt := nav [0, 0, 0] g32p0
noncomputable def g32 (k : Nat) (a0 : Int) : Option Int :=
  (nthA g32c0 5 a0).bind fun x0_2 => some x0_2
theorem g32_ok (k : Nat) (a0 : Int) (r : Int) (h : g32 k a0 = some r) : PureOk Try.prog 32 [.int .i64 a0] (.int .i64 r) := by
  refine pure_of X32 (fun _ => rfl) Try.func32 (by decide +kernel) (by kernel_rfl) (t := g32 k a0) ?_ h
  unfold g32
  refine ok_env (env' := [(0, .int .i64 a0)]) (by kernel_rfl) ?_
  refine ok_run 8 (p' := (atN 2 (ctl1 g32p1))) (env' := [(4, .int .i64 a0), (3, .agg [.int .i64 0, .int .i64 0, .int .i64 128, .int .i64 2048, .int .i64 65536]), (2, .int .i64 0), (0, .int .i64 a0)]) (H' := (mkH [])) (by kernel_rfl) ?_
  refine ok_chk (fun (x0_2 : Int) => (.int .i64 x0_2, (mkH []))) (atN 3 (ctl1 g32p1)) (fun x0_2 => [(5, .int .i64 x0_2), (4, .int .i64 a0), (3, .agg [.int .i64 0, .int .i64 0, .int .i64 128, .int .i64 2048, .int .i64 65536]), (2, .int .i64 0), (0, .int .i64 a0)]) (aidxH v3 g32c0 (by kernel_rfl)) (fun _ => by kernel_rfl) (fun x0_2 hx0_2 => ?_)
  let E1 : Env := [(2, .int .i64 x0_2), (5, .int .i64 x0_2), (4, .int .i64 a0), (3, .agg [.int .i64 0, .int .i64 0, .int .i64 128, .int .i64 2048, .int .i64 65536]), (2, .int .i64 0), (0, .int .i64 a0)]
  refine ok_run 3 (p' := .fin) (env' := E1) (H' := (mkH [])) (by kernel_rfl) ?_
  exact ok_ret (r := x0_2) (xs := [.int .i64 x0_2]) (v := .int .i64 x0_2) (by kernel_rfl) (by kernel_rfl) (by kernel_rfl) (.pures (by kernel_rfl)) (by kernel_rfl)
end Go.Proofs.Ytfkefelgjbfkjaa.Am
