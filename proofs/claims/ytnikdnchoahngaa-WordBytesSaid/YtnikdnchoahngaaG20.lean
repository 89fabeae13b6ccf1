/- Function 20, plain, and that the program computes it. Printed by gen.py. -/
import Derived.Test.YtnikdnchoahngaaTy
import Derived.Test.YtnikdnchoahngaaG43
set_option maxRecDepth 100000
set_option linter.unusedVariables false
namespace Go.Proofs.Ytnikdnchoahngaa.Am
open Go

/-! 20 galley/word.Begins -/
noncomputable def X20 : Fx Int := ⟨Try.prog, cx, Try.f20, fun r => .int .i64 r, 0, fun _ => H0, cxTi, cxOrd⟩
noncomputable def g20p0 : Pt := nav [0] (bodyAt Try.f20)
noncomputable def g20p1 : Pt := nav [0, 0, 0, 0, 0] g20p0
noncomputable def g20p2 : Pt := nav [0, 0] g20p1
noncomputable def g20p3 : Pt := nav [1, 0] g20p2
noncomputable def g20p4 : Pt := nav [2, 0] g20p2
noncomputable def g20p6 : Pt := nav [0, 0] g20p4
noncomputable def g20p7 : Pt := nav [1, 0] g20p6
noncomputable def g20p8 : Pt := nav [2, 0] g20p6
noncomputable def g20p9 : Pt := nav [0, 0] g20p8
noncomputable def g20p10 : Pt := nav [1, 0] g20p9
noncomputable def g20p11 : Pt := nav [2, 0, 0] g20p9
noncomputable def g20 (k : Nat) (a0 : Int) : Option Int :=
  (g43 k a0 (97 : Int) (122 : Int)).bind fun x0_1 => if x0_1 then (some (1 : Int)) else ((g43 k a0 (65 : Int) (90 : Int)).bind fun x1_1 => jn (fun (z3 : Bool) => if z3 then (some (2 : Int)) else ((g43 k a0 (48 : Int) (57 : Int)).bind fun x2_1 => if x2_1 then (some (3 : Int)) else (some (0 : Int)))) (fun j3 => if x1_1 then (j3 true) else (j3 (decide (a0 = 95)))))
theorem g20_ok (k : Nat) (a0 : Int) (r : Int) (h : g20 k a0 = some r) : PureOk Try.prog 20 [.int .u8 a0] (.int .i64 r) := by
  refine pure_of X20 (fun _ => rfl) Try.func20 (by decide +kernel) (by kernel_rfl) (t := g20 k a0) ?_ h
  unfold g20
  refine ok_env (env' := [(0, .int .u8 a0)]) (by kernel_rfl) ?_
  refine ok_run 9 (p' := (atN 1 (ctl1 g20p1))) (env' := [(4, .int .u8 a0), (2, .int .i64 0), (0, .int .u8 a0)]) (H' := (mkH [])) (by kernel_rfl) ?_
  refine ok_call (fun (x0_1 : Bool) => .bool x0_1) (atN 2 (ctl1 g20p1)) (fun x0_1 => [(5, .bool x0_1), (4, .int .u8 a0), (2, .int .i64 0), (0, .int .u8 a0)]) (fi := 43) (args := [.int .u8 a0, .int .u8 97, .int .u8 122]) (by kernel_rfl) (by kernel_rfl) (fun _ => by kernel_rfl) (fun r h => g43_ok k a0 (97 : Int) (122 : Int) r h) (fun _ => by kernel_rfl) (fun x0_1 hx0_1 => ?_)
  refine ok_run 2 (p' := g20p2) (env' := [(3, .bool x0_1), (5, .bool x0_1), (4, .int .u8 a0), (2, .int .i64 0), (0, .int .u8 a0)]) (H' := (mkH [])) (by kernel_rfl) ?_
  refine ok_split 3 (b := x0_1) (by kernel_rfl) (fun hb => ?_) (fun hb => ?_)
  · refine ok_run 6 (p' := .fin) (env' := [(2, .int .i64 1), (3, .bool true), (3, .bool x0_1), (5, .bool x0_1), (4, .int .u8 a0), (2, .int .i64 0), (0, .int .u8 a0)]) (H' := (mkH [])) (by kernel_rfl) ?_
    exact ok_ret (r := (1 : Int)) (xs := [.int .i64 1]) (v := .int .i64 1) (by kernel_rfl) (by kernel_rfl) (by kernel_rfl) (.pures (by kernel_rfl)) (by kernel_rfl)
  · refine ok_run 4 (p' := (atN 1 (ctl1 g20p4))) (env' := [(7, .int .u8 a0), (3, .bool false), (3, .bool x0_1), (5, .bool x0_1), (4, .int .u8 a0), (2, .int .i64 0), (0, .int .u8 a0)]) (H' := (mkH [])) (by kernel_rfl) ?_
    refine ok_call (fun (x1_1 : Bool) => .bool x1_1) (atN 2 (ctl1 g20p4)) (fun x1_1 => [(8, .bool x1_1), (7, .int .u8 a0), (3, .bool false), (3, .bool x0_1), (5, .bool x0_1), (4, .int .u8 a0), (2, .int .i64 0), (0, .int .u8 a0)]) (fi := 43) (args := [.int .u8 a0, .int .u8 65, .int .u8 90]) (by kernel_rfl) (by kernel_rfl) (fun _ => by kernel_rfl) (fun r h => g43_ok k a0 (65 : Int) (90 : Int) r h) (fun _ => by kernel_rfl) (fun x1_1 hx1_1 => ?_)
    refine ok_run 1 (p' := (atN 3 (ctl1 g20p4))) (env' := [(9, .bool x1_1), (8, .bool x1_1), (7, .int .u8 a0), (3, .bool false), (3, .bool x0_1), (5, .bool x0_1), (4, .int .u8 a0), (2, .int .i64 0), (0, .int .u8 a0)]) (H' := (mkH [])) (by kernel_rfl) ?_
    refine ok_jn (f := fun (z3 : Bool) => if z3 then (some (2 : Int)) else ((g43 k a0 (48 : Int) (57 : Int)).bind fun x2_1 => if x2_1 then (some (3 : Int)) else (some (0 : Int)))) g20p6 (fun (z3 : Bool) => [(0, .int .u8 a0), (6, .bool z3)]) (fun (z3 : Bool) => (mkH [])) (fun z3 => ?_) (fun j3 hj3 => ?_)
    · refine ok_split 6 (b := z3) (by kernel_rfl) (fun hb => ?_) (fun hb => ?_)
      · refine ok_run 6 (p' := .fin) (env' := [(2, .int .i64 2), (6, .bool true), (0, .int .u8 a0), (6, .bool z3)]) (H' := (mkH [])) (by kernel_rfl) ?_
        exact ok_ret (r := (2 : Int)) (xs := [.int .i64 2]) (v := .int .i64 2) (by kernel_rfl) (by kernel_rfl) (by kernel_rfl) (.pures (by kernel_rfl)) (by kernel_rfl)
      · refine ok_run 4 (p' := (atN 1 (ctl1 g20p8))) (env' := [(14, .int .u8 a0), (6, .bool false), (0, .int .u8 a0), (6, .bool z3)]) (H' := (mkH [])) (by kernel_rfl) ?_
        refine ok_call (fun (x2_1 : Bool) => .bool x2_1) (atN 2 (ctl1 g20p8)) (fun x2_1 => [(15, .bool x2_1), (14, .int .u8 a0), (6, .bool false), (0, .int .u8 a0), (6, .bool z3)]) (fi := 43) (args := [.int .u8 a0, .int .u8 48, .int .u8 57]) (by kernel_rfl) (by kernel_rfl) (fun _ => by kernel_rfl) (fun r h => g43_ok k a0 (48 : Int) (57 : Int) r h) (fun _ => by kernel_rfl) (fun x2_1 hx2_1 => ?_)
        refine ok_run 2 (p' := g20p9) (env' := [(13, .bool x2_1), (15, .bool x2_1), (14, .int .u8 a0), (6, .bool false), (0, .int .u8 a0), (6, .bool z3)]) (H' := (mkH [])) (by kernel_rfl) ?_
        refine ok_split 13 (b := x2_1) (by kernel_rfl) (fun hb => ?_) (fun hb => ?_)
        · refine ok_run 6 (p' := .fin) (env' := [(2, .int .i64 3), (13, .bool true), (13, .bool x2_1), (15, .bool x2_1), (14, .int .u8 a0), (6, .bool false), (0, .int .u8 a0), (6, .bool z3)]) (H' := (mkH [])) (by kernel_rfl) ?_
          exact ok_ret (r := (3 : Int)) (xs := [.int .i64 3]) (v := .int .i64 3) (by kernel_rfl) (by kernel_rfl) (by kernel_rfl) (.pures (by kernel_rfl)) (by kernel_rfl)
        · refine ok_run 7 (p' := .fin) (env' := [(2, .int .i64 0), (13, .bool false), (13, .bool x2_1), (15, .bool x2_1), (14, .int .u8 a0), (6, .bool false), (0, .int .u8 a0), (6, .bool z3)]) (H' := (mkH [])) (by kernel_rfl) ?_
          exact ok_ret (r := (0 : Int)) (xs := [.int .i64 0]) (v := .int .i64 0) (by kernel_rfl) (by kernel_rfl) (by kernel_rfl) (.pures (by kernel_rfl)) (by kernel_rfl)
    · refine ok_split 9 (b := x1_1) (by kernel_rfl) (fun hb => ?_) (fun hb => ?_)
      · refine ok_run 5 (p' := g20p6) (env' := [(6, .bool true), (12, .bool true), (11, .tuple []), (10, .tuple []), (9, .bool true), (9, .bool x1_1), (8, .bool x1_1), (7, .int .u8 a0), (3, .bool false), (3, .bool x0_1), (5, .bool x0_1), (4, .int .u8 a0), (2, .int .i64 0), (0, .int .u8 a0)]) (H' := (mkH [])) (by kernel_rfl) ?_
        refine ok_keep [0, 6] (env' := [(0, .int .u8 a0), (6, .bool true)]) (by kernel_rfl) ?_
        exact hj3 true
      · refine ok_run 5 (p' := g20p6) (env' := [(6, .bool (decide (a0 = 95))), (12, .bool (decide (a0 = 95))), (11, .bool (decide (a0 = 95))), (10, .int .u8 a0), (9, .bool false), (9, .bool x1_1), (8, .bool x1_1), (7, .int .u8 a0), (3, .bool false), (3, .bool x0_1), (5, .bool x0_1), (4, .int .u8 a0), (2, .int .i64 0), (0, .int .u8 a0)]) (H' := (mkH [])) (by kernel_rfl) ?_
        refine ok_keep [0, 6] (env' := [(0, .int .u8 a0), (6, .bool (decide (a0 = 95)))]) (by kernel_rfl) ?_
        exact hj3 (decide (a0 = 95))
end Go.Proofs.Ytnikdnchoahngaa.Am
