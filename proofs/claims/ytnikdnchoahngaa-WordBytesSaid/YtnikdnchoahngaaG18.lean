/- Function 18, plain, and that the program computes it. Printed by gen.py. -/
import Derived.Test.YtnikdnchoahngaaTy
import Derived.Test.YtnikdnchoahngaaG20
set_option maxRecDepth 100000
set_option linter.unusedVariables false
namespace Go.Proofs.Ytnikdnchoahngaa.Am
open Go

/-! 18 galley/word.Inner -/
noncomputable def X18 : Fx Bool := ⟨Try.prog, cx, Try.f18, fun r => .bool r, 0, fun _ => H0, cxTi, cxOrd⟩
noncomputable def g18p0 : Pt := nav [0] (bodyAt Try.f18)
noncomputable def g18p1 : Pt := nav [0, 0, 0] g18p0
noncomputable def g18 (k : Nat) (a0 : Int) : Option Bool :=
  (g20 k a0).bind fun x0_1 => if (!decide (x0_1 = 0)) then (some true) else (some (decide (a0 = 64)))
theorem g18_ok (k : Nat) (a0 : Int) (r : Bool) (h : g18 k a0 = some r) : PureOk Try.prog 18 [.int .u8 a0] (.bool r) := by
  refine pure_of X18 (fun _ => rfl) Try.func18 (by decide +kernel) (by kernel_rfl) (t := g18 k a0) ?_ h
  unfold g18
  refine ok_env (env' := [(0, .int .u8 a0)]) (by kernel_rfl) ?_
  refine ok_run 7 (p' := (atN 1 (ctl1 g18p1))) (env' := [(3, .int .u8 a0), (2, .bool false), (0, .int .u8 a0)]) (H' := (mkH [])) (by kernel_rfl) ?_
  refine ok_call (fun (x0_1 : Int) => .int .i64 x0_1) (atN 2 (ctl1 g18p1)) (fun x0_1 => [(4, .int .i64 x0_1), (3, .int .u8 a0), (2, .bool false), (0, .int .u8 a0)]) (fi := 20) (args := [.int .u8 a0]) (by kernel_rfl) (by kernel_rfl) (fun _ => by kernel_rfl) (fun r h => g20_ok k a0 r h) (fun _ => by kernel_rfl) (fun x0_1 hx0_1 => ?_)
  refine ok_run 2 (p' := (atN 4 (ctl1 g18p1))) (env' := [(6, .bool (!decide (x0_1 = 0))), (5, .bool (!decide (x0_1 = 0))), (4, .int .i64 x0_1), (3, .int .u8 a0), (2, .bool false), (0, .int .u8 a0)]) (H' := (mkH [])) (by kernel_rfl) ?_
  refine ok_split 6 (b := !decide (x0_1 = 0)) (by kernel_rfl) (fun hb => ?_) (fun hb => ?_)
  · refine ok_run 6 (p' := .fin) (env' := [(2, .bool true), (9, .bool true), (8, .tuple []), (7, .tuple []), (6, .bool true), (6, .bool (!decide (x0_1 = 0))), (5, .bool (!decide (x0_1 = 0))), (4, .int .i64 x0_1), (3, .int .u8 a0), (2, .bool false), (0, .int .u8 a0)]) (H' := (mkH [])) (by kernel_rfl) ?_
    exact ok_ret (r := true) (xs := [.bool true]) (v := .bool true) (by kernel_rfl) (by kernel_rfl) (by kernel_rfl) (.pures (by kernel_rfl)) (by kernel_rfl)
  · refine ok_run 6 (p' := .fin) (env' := [(2, .bool (decide (a0 = 64))), (9, .bool (decide (a0 = 64))), (8, .bool (decide (a0 = 64))), (7, .int .u8 a0), (6, .bool false), (6, .bool (!decide (x0_1 = 0))), (5, .bool (!decide (x0_1 = 0))), (4, .int .i64 x0_1), (3, .int .u8 a0), (2, .bool false), (0, .int .u8 a0)]) (H' := (mkH [])) (by kernel_rfl) ?_
    exact ok_ret (r := (decide (a0 = 64))) (xs := [.bool (decide (a0 = 64))]) (v := .bool (decide (a0 = 64))) (by kernel_rfl) (by kernel_rfl) (by kernel_rfl) (.pures (by kernel_rfl)) (by kernel_rfl)
end Go.Proofs.Ytnikdnchoahngaa.Am
