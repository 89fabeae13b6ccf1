/- Function 48, plain, and that the program computes it. Printed by gen.py. -/
import Derived.Test.YtokcjgjgojlhbaaTy
set_option maxRecDepth 100000
set_option linter.unusedVariables false
namespace Go.Proofs.Ytokcjgjgojlhbaa.Am
open Go

/-! 48 galley/utf.least -/
noncomputable def X48 : Fx Int := ⟨Try.prog, cx, Try.f48, fun r => .int .i64 r, 0, fun _ => H0, cxTi, cxOrd⟩
def g48c0 : List Int := [(0 : Int), (0 : Int), (128 : Int), (2048 : Int), (65536 : Int)]
noncomputable def g48p0 : Pt := nav [0] (bodyAt Try.f48)
noncomputable def g48p1 : Pt := nav [0, 0, 0] g48p0
noncomputable def g48 (k : Nat) (a0 : Int) : Option Int :=
  (nthA g48c0 5 a0).bind fun x0_2 => some x0_2
theorem g48_ok (k : Nat) (a0 : Int) (r : Int) (h : g48 k a0 = some r) : PureOk Try.prog 48 [.int .i64 a0] (.int .i64 r) := by
  refine pure_of X48 (fun _ => rfl) Try.func48 (by decide +kernel) (by kernel_rfl) (t := g48 k a0) ?_ h
  unfold g48
  refine ok_env (env' := [(0, .int .i64 a0)]) (by kernel_rfl) ?_
  refine ok_run 8 (p' := (atN 2 (ctl1 g48p1))) (env' := [(4, .int .i64 a0), (3, .agg [.int .i64 0, .int .i64 0, .int .i64 128, .int .i64 2048, .int .i64 65536]), (2, .int .i64 0), (0, .int .i64 a0)]) (H' := (mkH [])) (by kernel_rfl) ?_
  refine ok_chk (fun (x0_2 : Int) => (.int .i64 x0_2, (mkH []))) (atN 3 (ctl1 g48p1)) (fun x0_2 => [(5, .int .i64 x0_2), (4, .int .i64 a0), (3, .agg [.int .i64 0, .int .i64 0, .int .i64 128, .int .i64 2048, .int .i64 65536]), (2, .int .i64 0), (0, .int .i64 a0)]) (aidxH v3 g48c0 (by kernel_rfl)) (fun _ => by kernel_rfl) (fun x0_2 hx0_2 => ?_)
  let E1 : Env := [(2, .int .i64 x0_2), (5, .int .i64 x0_2), (4, .int .i64 a0), (3, .agg [.int .i64 0, .int .i64 0, .int .i64 128, .int .i64 2048, .int .i64 65536]), (2, .int .i64 0), (0, .int .i64 a0)]
  refine ok_run 3 (p' := .fin) (env' := E1) (H' := (mkH [])) (by kernel_rfl) ?_
  exact ok_ret (r := x0_2) (xs := [.int .i64 x0_2]) (v := .int .i64 x0_2) (by kernel_rfl) (by kernel_rfl) (by kernel_rfl) (.pures (by kernel_rfl)) (by kernel_rfl)
end Go.Proofs.Ytokcjgjgojlhbaa.Am
