/- Function 25, plain, and that the program computes it. Printed by gen.py. -/
import Derived.Test.YtnikdnchoahngaaTy
import Derived.Test.YtnikdnchoahngaaG23
set_option maxRecDepth 100000
set_option linter.unusedVariables false
namespace Go.Proofs.Ytnikdnchoahngaa.Am
open Go

/-! 25 galley/ops.Side -/
noncomputable def X25 : Fx Int := ⟨Try.prog, cx, Try.f25, fun r => .int .i64 r, 0, fun _ => H0, cxTi, cxOrd⟩
def g25c0 : List Int := [(0 : Int), (2 : Int), (1 : Int), (2 : Int), (2 : Int), (2 : Int), (3 : Int), (2 : Int), (1 : Int), (1 : Int)]
noncomputable def g25p0 : Pt := nav [0] (bodyAt Try.f25)
noncomputable def g25p1 : Pt := nav [0, 0, 0] g25p0
noncomputable def g25 (k : Nat) (a0 : (List Nat)) : Option Int :=
  (g23 k a0).bind fun x0_2 => (nthA g25c0 10 x0_2).bind fun x0_3 => some x0_3
theorem g25_ok (k : Nat) (a0 : (List Nat)) (r : Int) (h : g25 k a0 = some r) : PureOk Try.prog 25 [.str a0] (.int .i64 r) := by
  refine pure_of X25 (fun _ => rfl) Try.func25 (by decide +kernel) (by kernel_rfl) (t := g25 k a0) ?_ h
  unfold g25
  refine ok_env (env' := [(0, .str a0)]) (by kernel_rfl) ?_
  refine ok_run 8 (p' := (atN 2 (ctl1 g25p1))) (env' := [(4, .str a0), (3, .agg [.int .i64 0, .int .i64 2, .int .i64 1, .int .i64 2, .int .i64 2, .int .i64 2, .int .i64 3, .int .i64 2, .int .i64 1, .int .i64 1]), (2, .int .i64 0), (0, .str a0)]) (H' := (mkH [])) (by kernel_rfl) ?_
  refine ok_call (fun (x0_2 : Int) => .int .i64 x0_2) (atN 3 (ctl1 g25p1)) (fun x0_2 => [(5, .int .i64 x0_2), (4, .str a0), (3, .agg [.int .i64 0, .int .i64 2, .int .i64 1, .int .i64 2, .int .i64 2, .int .i64 2, .int .i64 3, .int .i64 2, .int .i64 1, .int .i64 1]), (2, .int .i64 0), (0, .str a0)]) (fi := 23) (args := [.str a0]) (by kernel_rfl) (by kernel_rfl) (fun _ => by kernel_rfl) (fun r h => g23_ok k a0 r h) (fun _ => by kernel_rfl) (fun x0_2 hx0_2 => ?_)
  refine ok_chk (fun (x0_3 : Int) => (.int .i64 x0_3, (mkH []))) (atN 4 (ctl1 g25p1)) (fun x0_3 => [(6, .int .i64 x0_3), (5, .int .i64 x0_2), (4, .str a0), (3, .agg [.int .i64 0, .int .i64 2, .int .i64 1, .int .i64 2, .int .i64 2, .int .i64 2, .int .i64 3, .int .i64 2, .int .i64 1, .int .i64 1]), (2, .int .i64 0), (0, .str a0)]) (aidxH v3 g25c0 (by kernel_rfl)) (fun _ => by kernel_rfl) (fun x0_3 hx0_3 => ?_)
  refine ok_run 3 (p' := .fin) (env' := [(2, .int .i64 x0_3), (6, .int .i64 x0_3), (5, .int .i64 x0_2), (4, .str a0), (3, .agg [.int .i64 0, .int .i64 2, .int .i64 1, .int .i64 2, .int .i64 2, .int .i64 2, .int .i64 3, .int .i64 2, .int .i64 1, .int .i64 1]), (2, .int .i64 0), (0, .str a0)]) (H' := (mkH [])) (by kernel_rfl) ?_
  exact ok_ret (r := x0_3) (xs := [.int .i64 x0_3]) (v := .int .i64 x0_3) (by kernel_rfl) (by kernel_rfl) (by kernel_rfl) (.pures (by kernel_rfl)) (by kernel_rfl)
end Go.Proofs.Ytnikdnchoahngaa.Am
