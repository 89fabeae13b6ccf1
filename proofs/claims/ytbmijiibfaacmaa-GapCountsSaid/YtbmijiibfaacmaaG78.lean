/- Function 78, plain, and that the program computes it. Printed by gen.py. -/
import Derived.Test.YtbmijiibfaacmaaTy
import Derived.Test.YtbmijiibfaacmaaG71
set_option maxRecDepth 100000
set_option linter.unusedVariables false
namespace Go.Proofs.Ytbmijiibfaacmaa.Am
open Go

/-! 78 galley/galleyref1.value -/
noncomputable def X78 : Fx Int := ⟨Try.prog, cx, Try.f78, fun r => .int .i64 r, 0, fun _ => H0, cxTi, cxOrd⟩
noncomputable def g78p0 : Pt := nav [0] (bodyAt Try.f78)
noncomputable def g78p1 : Pt := nav [0, 0, 0] g78p0
noncomputable def g78p2 : Pt := nav [0, 0, 0, 0, 0] g78p1
noncomputable def g78p3 : Pt := nav [0, 0] g78p2
noncomputable def g78p4 : Pt := nav [1] g78p3
noncomputable def g78p5 : Pt := nav [2, 0] g78p3
noncomputable def g78p6 : Pt := nav [0, 0, 0, 0] g78p4
noncomputable def g78p7 : Pt := nav [0, 0] g78p5
noncomputable def g78p8 : Pt := nav [0, 0] g78p6
noncomputable def g78p9 : Pt := nav [1] g78p7
noncomputable def g78p10 : Pt := nav [2, 0] g78p7
noncomputable def g78p11 : Pt := nav [1, 0] g78p8
noncomputable def g78p12 : Pt := nav [2, 0, 0] g78p8
noncomputable def g78p13 : Pt := nav [0, 0] g78p10
noncomputable def g78p15 : Pt := nav [1] g78p13
noncomputable def g78 (k : Nat) (a0 : Int) (a1 : Int) : Option Int :=
  (g71 k a0).bind fun x0_1 => jn (fun (z1 : Int) => if (decide (a1 ≤ z1)) then (some ((-1) : Int)) else (some z1)) (fun j1 => if x0_1 then (j1 (fwrap .i64 (fwrap .u8 (a0 - 48)))) else (jn (fun (z2 : Bool) => if z2 then (j1 (fwrap .i64 (fwrap .i64 (fwrap .u8 (a0 - 97)) + 10))) else (jn (fun (z3 : Bool) => if z3 then (j1 (fwrap .i64 (fwrap .i64 (fwrap .u8 (a0 - 65)) + 10))) else (j1 (-1))) (fun j3 => if (decide (65 ≤ a0)) then (j3 (decide (a0 ≤ 90))) else (j3 false)))) (fun j2 => if (decide (97 ≤ a0)) then (j2 (decide (a0 ≤ 122))) else (j2 false))))
theorem g78_ok (k : Nat) (a0 : Int) (a1 : Int) (r : Int) (h : g78 k a0 a1 = some r) : PureOk Try.prog 78 [.int .u8 a0, .int .i64 a1] (.int .i64 r) := by
  refine pure_of X78 (fun _ => rfl) Try.func78 (by decide +kernel) (by kernel_rfl) (t := g78 k a0 a1) ?_ h
  unfold g78
  refine ok_env (env' := [(0, .int .u8 a0), (1, .int .i64 a1)]) (by kernel_rfl) ?_
  refine ok_run 13 (p' := (atN 1 (ctl1 g78p2))) (env' := [(7, .int .u8 a0), (5, .int .i64 (-1)), (4, .int .i64 0), (0, .int .u8 a0), (1, .int .i64 a1)]) (H' := (mkH [])) (by kernel_rfl) ?_
  refine ok_call (fun (x0_1 : Bool) => .bool x0_1) (atN 2 (ctl1 g78p2)) (fun x0_1 => [(8, .bool x0_1), (7, .int .u8 a0), (5, .int .i64 (-1)), (4, .int .i64 0), (0, .int .u8 a0), (1, .int .i64 a1)]) (fi := 71) (args := [.int .u8 a0]) (by kernel_rfl) (by kernel_rfl) (fun _ => by kernel_rfl) (fun r h => g71_ok k a0 r h) (fun _ => by kernel_rfl) (fun x0_1 hx0_1 => ?_)
  refine ok_run 2 (p' := g78p3) (env' := [(6, .bool x0_1), (8, .bool x0_1), (7, .int .u8 a0), (5, .int .i64 (-1)), (4, .int .i64 0), (0, .int .u8 a0), (1, .int .i64 a1)]) (H' := (mkH [])) (by kernel_rfl) ?_
  refine ok_jn (f := fun (z1 : Int) => if (decide (a1 ≤ z1)) then (some ((-1) : Int)) else (some z1)) g78p6 (fun (z1 : Int) => [(1, .int .i64 a1), (5, .int .i64 z1)]) (fun (z1 : Int) => (mkH [])) (fun z1 => ?_) (fun j1 hj1 => ?_)
  · refine ok_run 5 (p' := g78p8) (env' := [(36, .bool (decide (a1 ≤ z1))), (35, .int .i64 a1), (34, .int .i64 z1), (1, .int .i64 a1), (5, .int .i64 z1)]) (H' := (mkH [])) (by kernel_rfl) ?_
    refine ok_split 36 (b := decide (a1 ≤ z1)) (by kernel_rfl) (fun hb => ?_) (fun hb => ?_)
    · refine ok_run 6 (p' := .fin) (env' := [(4, .int .i64 (-1)), (36, .bool true), (36, .bool (decide (a1 ≤ z1))), (35, .int .i64 a1), (34, .int .i64 z1), (1, .int .i64 a1), (5, .int .i64 z1)]) (H' := (mkH [])) (by kernel_rfl) ?_
      exact ok_ret (r := ((-1) : Int)) (xs := [.int .i64 (-1)]) (v := .int .i64 (-1)) (by kernel_rfl) (by kernel_rfl) (by kernel_rfl) (.pures (by kernel_rfl)) (by kernel_rfl)
    · refine ok_run 8 (p' := .fin) (env' := [(4, .int .i64 z1), (37, .int .i64 z1), (36, .bool false), (36, .bool (decide (a1 ≤ z1))), (35, .int .i64 a1), (34, .int .i64 z1), (1, .int .i64 a1), (5, .int .i64 z1)]) (H' := (mkH [])) (by kernel_rfl) ?_
      exact ok_ret (r := z1) (xs := [.int .i64 z1]) (v := .int .i64 z1) (by kernel_rfl) (by kernel_rfl) (by kernel_rfl) (.pures (by kernel_rfl)) (by kernel_rfl)
  · refine ok_split 6 (b := x0_1) (by kernel_rfl) (fun hb => ?_) (fun hb => ?_)
    · refine ok_run 9 (p' := g78p6) (env' := [(5, .int .i64 (fwrap .i64 (fwrap .u8 (a0 - 48)))), (11, .int .i64 (fwrap .i64 (fwrap .u8 (a0 - 48)))), (10, .int .u8 (fwrap .u8 (a0 - 48))), (9, .int .u8 a0), (6, .bool true), (6, .bool x0_1), (8, .bool x0_1), (7, .int .u8 a0), (5, .int .i64 (-1)), (4, .int .i64 0), (0, .int .u8 a0), (1, .int .i64 a1)]) (H' := (mkH [])) (by kernel_rfl) ?_
      refine ok_keep [1, 5] (env' := [(1, .int .i64 a1), (5, .int .i64 (fwrap .i64 (fwrap .u8 (a0 - 48))))]) (by kernel_rfl) ?_
      exact hj1 (fwrap .i64 (fwrap .u8 (a0 - 48)))
    · refine ok_run 6 (p' := (atN 3 (ctl1 g78p5))) (env' := [(15, .bool (decide (97 ≤ a0))), (14, .bool (decide (97 ≤ a0))), (13, .int .u8 a0), (6, .bool false), (6, .bool x0_1), (8, .bool x0_1), (7, .int .u8 a0), (5, .int .i64 (-1)), (4, .int .i64 0), (0, .int .u8 a0), (1, .int .i64 a1)]) (H' := (mkH [])) (by kernel_rfl) ?_
      refine ok_jn (f := fun (z2 : Bool) => if z2 then (j1 (fwrap .i64 (fwrap .i64 (fwrap .u8 (a0 - 97)) + 10))) else (jn (fun (z3 : Bool) => if z3 then (j1 (fwrap .i64 (fwrap .i64 (fwrap .u8 (a0 - 65)) + 10))) else (j1 (-1))) (fun j3 => if (decide (65 ≤ a0)) then (j3 (decide (a0 ≤ 90))) else (j3 false)))) g78p7 (fun (z2 : Bool) => [(0, .int .u8 a0), (1, .int .i64 a1), (5, .int .i64 (-1)), (12, .bool z2)]) (fun (z2 : Bool) => (mkH [])) (fun z2 => ?_) (fun j2 hj2 => ?_)
      · refine ok_split 12 (b := z2) (by kernel_rfl) (fun hb => ?_) (fun hb => ?_)
        · refine ok_run 10 (p' := g78p6) (env' := [(5, .int .i64 (fwrap .i64 (fwrap .i64 (fwrap .u8 (a0 - 97)) + 10))), (22, .int .i64 (fwrap .i64 (fwrap .i64 (fwrap .u8 (a0 - 97)) + 10))), (21, .int .i64 (fwrap .i64 (fwrap .u8 (a0 - 97)))), (20, .int .u8 (fwrap .u8 (a0 - 97))), (19, .int .u8 a0), (12, .bool true), (0, .int .u8 a0), (1, .int .i64 a1), (5, .int .i64 (-1)), (12, .bool z2)]) (H' := (mkH [])) (by kernel_rfl) ?_
          refine ok_keep [1, 5] (env' := [(1, .int .i64 a1), (5, .int .i64 (fwrap .i64 (fwrap .i64 (fwrap .u8 (a0 - 97)) + 10)))]) (by kernel_rfl) ?_
          exact hj1 (fwrap .i64 (fwrap .i64 (fwrap .u8 (a0 - 97)) + 10))
        · refine ok_run 6 (p' := (atN 3 (ctl1 g78p10))) (env' := [(26, .bool (decide (65 ≤ a0))), (25, .bool (decide (65 ≤ a0))), (24, .int .u8 a0), (12, .bool false), (0, .int .u8 a0), (1, .int .i64 a1), (5, .int .i64 (-1)), (12, .bool z2)]) (H' := (mkH [])) (by kernel_rfl) ?_
          refine ok_jn (f := fun (z3 : Bool) => if z3 then (j1 (fwrap .i64 (fwrap .i64 (fwrap .u8 (a0 - 65)) + 10))) else (j1 (-1))) g78p13 (fun (z3 : Bool) => [(0, .int .u8 a0), (1, .int .i64 a1), (5, .int .i64 (-1)), (23, .bool z3)]) (fun (z3 : Bool) => (mkH [])) (fun z3 => ?_) (fun j3 hj3 => ?_)
          · refine ok_split 23 (b := z3) (by kernel_rfl) (fun hb => ?_) (fun hb => ?_)
            · refine ok_run 10 (p' := g78p6) (env' := [(5, .int .i64 (fwrap .i64 (fwrap .i64 (fwrap .u8 (a0 - 65)) + 10))), (33, .int .i64 (fwrap .i64 (fwrap .i64 (fwrap .u8 (a0 - 65)) + 10))), (32, .int .i64 (fwrap .i64 (fwrap .u8 (a0 - 65)))), (31, .int .u8 (fwrap .u8 (a0 - 65))), (30, .int .u8 a0), (23, .bool true), (0, .int .u8 a0), (1, .int .i64 a1), (5, .int .i64 (-1)), (23, .bool z3)]) (H' := (mkH [])) (by kernel_rfl) ?_
              refine ok_keep [1, 5] (env' := [(1, .int .i64 a1), (5, .int .i64 (fwrap .i64 (fwrap .i64 (fwrap .u8 (a0 - 65)) + 10)))]) (by kernel_rfl) ?_
              exact hj1 (fwrap .i64 (fwrap .i64 (fwrap .u8 (a0 - 65)) + 10))
            · refine ok_run 4 (p' := g78p6) (env' := [(23, .bool false), (0, .int .u8 a0), (1, .int .i64 a1), (5, .int .i64 (-1)), (23, .bool z3)]) (H' := (mkH [])) (by kernel_rfl) ?_
              refine ok_keep [1, 5] (env' := [(1, .int .i64 a1), (5, .int .i64 (-1))]) (by kernel_rfl) ?_
              exact hj1 (-1)
          · refine ok_split 26 (b := decide (65 ≤ a0)) (by kernel_rfl) (fun hb => ?_) (fun hb => ?_)
            · refine ok_run 5 (p' := g78p13) (env' := [(23, .bool (decide (a0 ≤ 90))), (29, .bool (decide (a0 ≤ 90))), (28, .bool (decide (a0 ≤ 90))), (27, .int .u8 a0), (26, .bool true), (26, .bool (decide (65 ≤ a0))), (25, .bool (decide (65 ≤ a0))), (24, .int .u8 a0), (12, .bool false), (0, .int .u8 a0), (1, .int .i64 a1), (5, .int .i64 (-1)), (12, .bool z2)]) (H' := (mkH [])) (by kernel_rfl) ?_
              refine ok_keep [0, 1, 5, 23] (env' := [(0, .int .u8 a0), (1, .int .i64 a1), (5, .int .i64 (-1)), (23, .bool (decide (a0 ≤ 90)))]) (by kernel_rfl) ?_
              exact hj3 (decide (a0 ≤ 90))
            · refine ok_run 5 (p' := g78p13) (env' := [(23, .bool false), (29, .bool false), (28, .tuple []), (27, .tuple []), (26, .bool false), (26, .bool (decide (65 ≤ a0))), (25, .bool (decide (65 ≤ a0))), (24, .int .u8 a0), (12, .bool false), (0, .int .u8 a0), (1, .int .i64 a1), (5, .int .i64 (-1)), (12, .bool z2)]) (H' := (mkH [])) (by kernel_rfl) ?_
              refine ok_keep [0, 1, 5, 23] (env' := [(0, .int .u8 a0), (1, .int .i64 a1), (5, .int .i64 (-1)), (23, .bool false)]) (by kernel_rfl) ?_
              exact hj3 false
      · refine ok_split 15 (b := decide (97 ≤ a0)) (by kernel_rfl) (fun hb => ?_) (fun hb => ?_)
        · refine ok_run 5 (p' := g78p7) (env' := [(12, .bool (decide (a0 ≤ 122))), (18, .bool (decide (a0 ≤ 122))), (17, .bool (decide (a0 ≤ 122))), (16, .int .u8 a0), (15, .bool true), (15, .bool (decide (97 ≤ a0))), (14, .bool (decide (97 ≤ a0))), (13, .int .u8 a0), (6, .bool false), (6, .bool x0_1), (8, .bool x0_1), (7, .int .u8 a0), (5, .int .i64 (-1)), (4, .int .i64 0), (0, .int .u8 a0), (1, .int .i64 a1)]) (H' := (mkH [])) (by kernel_rfl) ?_
          refine ok_keep [0, 1, 5, 12] (env' := [(0, .int .u8 a0), (1, .int .i64 a1), (5, .int .i64 (-1)), (12, .bool (decide (a0 ≤ 122)))]) (by kernel_rfl) ?_
          exact hj2 (decide (a0 ≤ 122))
        · refine ok_run 5 (p' := g78p7) (env' := [(12, .bool false), (18, .bool false), (17, .tuple []), (16, .tuple []), (15, .bool false), (15, .bool (decide (97 ≤ a0))), (14, .bool (decide (97 ≤ a0))), (13, .int .u8 a0), (6, .bool false), (6, .bool x0_1), (8, .bool x0_1), (7, .int .u8 a0), (5, .int .i64 (-1)), (4, .int .i64 0), (0, .int .u8 a0), (1, .int .i64 a1)]) (H' := (mkH [])) (by kernel_rfl) ?_
          refine ok_keep [0, 1, 5, 12] (env' := [(0, .int .u8 a0), (1, .int .i64 a1), (5, .int .i64 (-1)), (12, .bool false)]) (by kernel_rfl) ?_
          exact hj2 false
end Go.Proofs.Ytbmijiibfaacmaa.Am
