/- Function 63, plain, and that the program computes it. Printed by gen.py. -/
import Derived.Test.YtbmijiibfaacmaaTy
import Derived.Test.YtbmijiibfaacmaaG56
import Derived.Test.YtbmijiibfaacmaaG75
set_option maxRecDepth 100000
set_option linter.unusedVariables false
namespace Go.Proofs.Ytbmijiibfaacmaa.Am
open Go

/-! 63 galley/galleyref6.char -/
noncomputable def X63 : Fx Int := ⟨Try.prog, cx, Try.f63, fun r => .int .i64 r, 0, fun _ => H0, cxTi, cxOrd⟩
noncomputable def g63p0 : Pt := nav [0] (bodyAt Try.f63)
noncomputable def g63p1 : Pt := nav [0, 0, 0, 0] g63p0
noncomputable def g63p2 : Pt := nav [0, 0] g63p1
noncomputable def g63p3 : Pt := nav [1, 0, 0] g63p2
noncomputable def g63p4 : Pt := nav [2, 0, 0] g63p2
noncomputable def g63p5 : Pt := nav [0, 0, 0] g63p3
noncomputable def g63p6 : Pt := nav [0, 0, 0, 0] g63p4
noncomputable def g63p7 : Pt := nav [0, 0] g63p5
noncomputable def g63p8 : Pt := nav [0, 0] g63p6
noncomputable def g63p9 : Pt := nav [1, 0] g63p7
noncomputable def g63p10 : Pt := nav [2, 0, 0] g63p7
noncomputable def g63p11 : Pt := nav [1, 0] g63p8
noncomputable def g63p12 : Pt := nav [2, 0, 0] g63p8
noncomputable def g63 (k : Nat) (a0 : (List Nat)) (a1 : Int) : Option Int :=
  jn (fun (z3 : Bool) => if z3 then ((g75 k a0 (fwrap .i64 (a1 + 1))).bind fun x1_3 => if (decide (0 ≤ x1_3.1)) then (some (fwrap .i64 (x1_3.2 + 1))) else (some (0 : Int))) else ((g56 k a0 (fwrap .i64 (a1 + 1))).bind fun x2_3 => jn (fun (z4 : Bool) => if z4 then (some (0 : Int)) else (some (fwrap .i64 (x2_3.2 + 1)))) (fun j4 => if (decide (x2_3.1 ≤ 32)) then (j4 true) else (j4 (decide (x2_3.1 = 127)))))) (fun j3 => if (decide (fwrap .i64 (a1 + 1) < (a0.length : Int))) then ((nthS a0 (fwrap .i64 (a1 + 1))).bind fun x0_9 => j3 (decide (x0_9 = 92))) else (j3 false))
theorem g63_ok (k : Nat) (a0 : (List Nat)) (a1 : Int) (r : Int) (h : g63 k a0 a1 = some r) : PureOk Try.prog 63 [.str a0, .int .i64 a1] (.int .i64 r) := by
  refine pure_of X63 (fun _ => rfl) Try.func63 (by decide +kernel) (by kernel_rfl) (t := g63 k a0 a1) ?_ h
  unfold g63
  refine ok_env (env' := [(0, .str a0), (1, .int .i64 a1)]) (by kernel_rfl) ?_
  refine ok_run 13 (p' := (atN 6 (ctl1 g63p1))) (env' := [(14, .bool (decide (fwrap .i64 (a1 + 1) < (a0.length : Int)))), (13, .bool (decide (fwrap .i64 (a1 + 1) < (a0.length : Int)))), (12, .int .i64 (a0.length : Int)), (11, .str a0), (10, .int .i64 (fwrap .i64 (a1 + 1))), (9, .int .i64 a1), (4, .int .i64 0), (0, .str a0), (1, .int .i64 a1)]) (H' := (mkH [])) (by kernel_rfl) ?_
  refine ok_jn (f := fun (z3 : Bool) => if z3 then ((g75 k a0 (fwrap .i64 (a1 + 1))).bind fun x1_3 => if (decide (0 ≤ x1_3.1)) then (some (fwrap .i64 (x1_3.2 + 1))) else (some (0 : Int))) else ((g56 k a0 (fwrap .i64 (a1 + 1))).bind fun x2_3 => jn (fun (z4 : Bool) => if z4 then (some (0 : Int)) else (some (fwrap .i64 (x2_3.2 + 1)))) (fun j4 => if (decide (x2_3.1 ≤ 32)) then (j4 true) else (j4 (decide (x2_3.1 = 127)))))) g63p2 (fun (z3 : Bool) => [(0, .str a0), (1, .int .i64 a1), (20, .bool z3)]) (fun (z3 : Bool) => (mkH [])) (fun z3 => ?_) (fun j3 hj3 => ?_)
  · refine ok_split 20 (b := z3) (by kernel_rfl) (fun hb => ?_) (fun hb => ?_)
    · refine ok_run 7 (p' := (atN 3 (ctl1 g63p3))) (env' := [(24, .int .i64 (fwrap .i64 (a1 + 1))), (23, .int .i64 a1), (22, .str a0), (20, .bool true), (0, .str a0), (1, .int .i64 a1), (20, .bool z3)]) (H' := (mkH [])) (by kernel_rfl) ?_
      refine ok_call (fun (x1_3 : (Int × Int)) => .tuple [.int .i64 x1_3.1, .int .i64 x1_3.2]) (atN 4 (ctl1 g63p3)) (fun x1_3 => [(25, .tuple [.int .i64 x1_3.1, .int .i64 x1_3.2]), (24, .int .i64 (fwrap .i64 (a1 + 1))), (23, .int .i64 a1), (22, .str a0), (20, .bool true), (0, .str a0), (1, .int .i64 a1), (20, .bool z3)]) (fi := 75) (args := [.str a0, .int .i64 (fwrap .i64 (a1 + 1))]) (by kernel_rfl) (by kernel_rfl) (fun _ => by kernel_rfl) (fun r h => g75_ok k a0 (fwrap .i64 (a1 + 1)) r h) (fun _ => by kernel_rfl) (fun x1_3 hx1_3 => ?_)
      refine ok_run 11 (p' := g63p7) (env' := [(29, .bool (decide (0 ≤ x1_3.1))), (28, .int .i64 x1_3.1), (6, .int .i64 x1_3.2), (5, .int .i64 x1_3.1), (27, .int .i64 x1_3.2), (26, .int .i64 x1_3.1), (21, .tuple [.int .i64 x1_3.1, .int .i64 x1_3.2]), (25, .tuple [.int .i64 x1_3.1, .int .i64 x1_3.2]), (24, .int .i64 (fwrap .i64 (a1 + 1))), (23, .int .i64 a1), (22, .str a0), (20, .bool true), (0, .str a0), (1, .int .i64 a1), (20, .bool z3)]) (H' := (mkH [])) (by kernel_rfl) ?_
      refine ok_split 29 (b := decide (0 ≤ x1_3.1)) (by kernel_rfl) (fun hb => ?_) (fun hb => ?_)
      · refine ok_run 8 (p' := .fin) (env' := [(4, .int .i64 (fwrap .i64 (x1_3.2 + 1))), (31, .int .i64 (fwrap .i64 (x1_3.2 + 1))), (30, .int .i64 x1_3.2), (29, .bool true), (29, .bool (decide (0 ≤ x1_3.1))), (28, .int .i64 x1_3.1), (6, .int .i64 x1_3.2), (5, .int .i64 x1_3.1), (27, .int .i64 x1_3.2), (26, .int .i64 x1_3.1), (21, .tuple [.int .i64 x1_3.1, .int .i64 x1_3.2]), (25, .tuple [.int .i64 x1_3.1, .int .i64 x1_3.2]), (24, .int .i64 (fwrap .i64 (a1 + 1))), (23, .int .i64 a1), (22, .str a0), (20, .bool true), (0, .str a0), (1, .int .i64 a1), (20, .bool z3)]) (H' := (mkH [])) (by kernel_rfl) ?_
        exact ok_ret (r := (fwrap .i64 (x1_3.2 + 1))) (xs := [.int .i64 (fwrap .i64 (x1_3.2 + 1))]) (v := .int .i64 (fwrap .i64 (x1_3.2 + 1))) (by kernel_rfl) (by kernel_rfl) (by kernel_rfl) (.pures (by kernel_rfl)) (by kernel_rfl)
      · refine ok_run 7 (p' := .fin) (env' := [(4, .int .i64 0), (29, .bool false), (29, .bool (decide (0 ≤ x1_3.1))), (28, .int .i64 x1_3.1), (6, .int .i64 x1_3.2), (5, .int .i64 x1_3.1), (27, .int .i64 x1_3.2), (26, .int .i64 x1_3.1), (21, .tuple [.int .i64 x1_3.1, .int .i64 x1_3.2]), (25, .tuple [.int .i64 x1_3.1, .int .i64 x1_3.2]), (24, .int .i64 (fwrap .i64 (a1 + 1))), (23, .int .i64 a1), (22, .str a0), (20, .bool true), (0, .str a0), (1, .int .i64 a1), (20, .bool z3)]) (H' := (mkH [])) (by kernel_rfl) ?_
        exact ok_ret (r := (0 : Int)) (xs := [.int .i64 0]) (v := .int .i64 0) (by kernel_rfl) (by kernel_rfl) (by kernel_rfl) (.pures (by kernel_rfl)) (by kernel_rfl)
    · refine ok_run 7 (p' := (atN 3 (ctl1 g63p4))) (env' := [(35, .int .i64 (fwrap .i64 (a1 + 1))), (34, .int .i64 a1), (33, .str a0), (20, .bool false), (0, .str a0), (1, .int .i64 a1), (20, .bool z3)]) (H' := (mkH [])) (by kernel_rfl) ?_
      refine ok_call (fun (x2_3 : (Int × Int)) => .tuple [.int .i64 x2_3.1, .int .i64 x2_3.2]) (atN 4 (ctl1 g63p4)) (fun x2_3 => [(36, .tuple [.int .i64 x2_3.1, .int .i64 x2_3.2]), (35, .int .i64 (fwrap .i64 (a1 + 1))), (34, .int .i64 a1), (33, .str a0), (20, .bool false), (0, .str a0), (1, .int .i64 a1), (20, .bool z3)]) (fi := 56) (args := [.str a0, .int .i64 (fwrap .i64 (a1 + 1))]) (by kernel_rfl) (by kernel_rfl) (fun _ => by kernel_rfl) (fun r h => g56_ok k a0 (fwrap .i64 (a1 + 1)) r h) (fun _ => by kernel_rfl) (fun x2_3 hx2_3 => ?_)
      refine ok_run 12 (p' := (atN 3 (ctl1 g63p6))) (env' := [(41, .bool (decide (x2_3.1 ≤ 32))), (40, .bool (decide (x2_3.1 ≤ 32))), (39, .int .i64 x2_3.1), (8, .int .i64 x2_3.2), (7, .int .i64 x2_3.1), (38, .int .i64 x2_3.2), (37, .int .i64 x2_3.1), (32, .tuple [.int .i64 x2_3.1, .int .i64 x2_3.2]), (36, .tuple [.int .i64 x2_3.1, .int .i64 x2_3.2]), (35, .int .i64 (fwrap .i64 (a1 + 1))), (34, .int .i64 a1), (33, .str a0), (20, .bool false), (0, .str a0), (1, .int .i64 a1), (20, .bool z3)]) (H' := (mkH [])) (by kernel_rfl) ?_
      refine ok_jn (f := fun (z4 : Bool) => if z4 then (some (0 : Int)) else (some (fwrap .i64 (x2_3.2 + 1)))) g63p8 (fun (z4 : Bool) => [(8, .int .i64 x2_3.2), (44, .bool z4)]) (fun (z4 : Bool) => (mkH [])) (fun z4 => ?_) (fun j4 hj4 => ?_)
      · refine ok_split 44 (b := z4) (by kernel_rfl) (fun hb => ?_) (fun hb => ?_)
        · refine ok_run 6 (p' := .fin) (env' := [(4, .int .i64 0), (44, .bool true), (8, .int .i64 x2_3.2), (44, .bool z4)]) (H' := (mkH [])) (by kernel_rfl) ?_
          exact ok_ret (r := (0 : Int)) (xs := [.int .i64 0]) (v := .int .i64 0) (by kernel_rfl) (by kernel_rfl) (by kernel_rfl) (.pures (by kernel_rfl)) (by kernel_rfl)
        · refine ok_run 9 (p' := .fin) (env' := [(4, .int .i64 (fwrap .i64 (x2_3.2 + 1))), (46, .int .i64 (fwrap .i64 (x2_3.2 + 1))), (45, .int .i64 x2_3.2), (44, .bool false), (8, .int .i64 x2_3.2), (44, .bool z4)]) (H' := (mkH [])) (by kernel_rfl) ?_
          exact ok_ret (r := (fwrap .i64 (x2_3.2 + 1))) (xs := [.int .i64 (fwrap .i64 (x2_3.2 + 1))]) (v := .int .i64 (fwrap .i64 (x2_3.2 + 1))) (by kernel_rfl) (by kernel_rfl) (by kernel_rfl) (.pures (by kernel_rfl)) (by kernel_rfl)
      · refine ok_split 41 (b := decide (x2_3.1 ≤ 32)) (by kernel_rfl) (fun hb => ?_) (fun hb => ?_)
        · refine ok_run 4 (p' := g63p8) (env' := [(44, .bool true), (43, .tuple []), (42, .tuple []), (41, .bool true), (41, .bool (decide (x2_3.1 ≤ 32))), (40, .bool (decide (x2_3.1 ≤ 32))), (39, .int .i64 x2_3.1), (8, .int .i64 x2_3.2), (7, .int .i64 x2_3.1), (38, .int .i64 x2_3.2), (37, .int .i64 x2_3.1), (32, .tuple [.int .i64 x2_3.1, .int .i64 x2_3.2]), (36, .tuple [.int .i64 x2_3.1, .int .i64 x2_3.2]), (35, .int .i64 (fwrap .i64 (a1 + 1))), (34, .int .i64 a1), (33, .str a0), (20, .bool false), (0, .str a0), (1, .int .i64 a1), (20, .bool z3)]) (H' := (mkH [])) (by kernel_rfl) ?_
          refine ok_keep [8, 44] (env' := [(8, .int .i64 x2_3.2), (44, .bool true)]) (by kernel_rfl) ?_
          exact hj4 true
        · refine ok_run 4 (p' := g63p8) (env' := [(44, .bool (decide (x2_3.1 = 127))), (43, .bool (decide (x2_3.1 = 127))), (42, .int .i64 x2_3.1), (41, .bool false), (41, .bool (decide (x2_3.1 ≤ 32))), (40, .bool (decide (x2_3.1 ≤ 32))), (39, .int .i64 x2_3.1), (8, .int .i64 x2_3.2), (7, .int .i64 x2_3.1), (38, .int .i64 x2_3.2), (37, .int .i64 x2_3.1), (32, .tuple [.int .i64 x2_3.1, .int .i64 x2_3.2]), (36, .tuple [.int .i64 x2_3.1, .int .i64 x2_3.2]), (35, .int .i64 (fwrap .i64 (a1 + 1))), (34, .int .i64 a1), (33, .str a0), (20, .bool false), (0, .str a0), (1, .int .i64 a1), (20, .bool z3)]) (H' := (mkH [])) (by kernel_rfl) ?_
          refine ok_keep [8, 44] (env' := [(8, .int .i64 x2_3.2), (44, .bool (decide (x2_3.1 = 127)))]) (by kernel_rfl) ?_
          exact hj4 (decide (x2_3.1 = 127))
  · refine ok_split 14 (b := decide (fwrap .i64 (a1 + 1) < (a0.length : Int))) (by kernel_rfl) (fun hb => ?_) (fun hb => ?_)
    · refine ok_run 3 (p' := (atN 9 (ctl1 g63p1))) (env' := [(17, .int .i64 (fwrap .i64 (a1 + 1))), (16, .int .i64 a1), (15, .str a0), (14, .bool true), (14, .bool (decide (fwrap .i64 (a1 + 1) < (a0.length : Int)))), (13, .bool (decide (fwrap .i64 (a1 + 1) < (a0.length : Int)))), (12, .int .i64 (a0.length : Int)), (11, .str a0), (10, .int .i64 (fwrap .i64 (a1 + 1))), (9, .int .i64 a1), (4, .int .i64 0), (0, .str a0), (1, .int .i64 a1)]) (H' := (mkH [])) (by kernel_rfl) ?_
      refine ok_chk (fun (x0_9 : Int) => (.int .u8 x0_9, (mkH []))) (atN 10 (ctl1 g63p1)) (fun x0_9 => [(18, .int .u8 x0_9), (17, .int .i64 (fwrap .i64 (a1 + 1))), (16, .int .i64 a1), (15, .str a0), (14, .bool true), (14, .bool (decide (fwrap .i64 (a1 + 1) < (a0.length : Int)))), (13, .bool (decide (fwrap .i64 (a1 + 1) < (a0.length : Int)))), (12, .int .i64 (a0.length : Int)), (11, .str a0), (10, .int .i64 (fwrap .i64 (a1 + 1))), (9, .int .i64 a1), (4, .int .i64 0), (0, .str a0), (1, .int .i64 a1)]) (idxH (by kernel_rfl)) (fun _ => by kernel_rfl) (fun x0_9 hx0_9 => ?_)
      refine ok_run 3 (p' := g63p2) (env' := [(20, .bool (decide (x0_9 = 92))), (19, .bool (decide (x0_9 = 92))), (18, .int .u8 x0_9), (17, .int .i64 (fwrap .i64 (a1 + 1))), (16, .int .i64 a1), (15, .str a0), (14, .bool true), (14, .bool (decide (fwrap .i64 (a1 + 1) < (a0.length : Int)))), (13, .bool (decide (fwrap .i64 (a1 + 1) < (a0.length : Int)))), (12, .int .i64 (a0.length : Int)), (11, .str a0), (10, .int .i64 (fwrap .i64 (a1 + 1))), (9, .int .i64 a1), (4, .int .i64 0), (0, .str a0), (1, .int .i64 a1)]) (H' := (mkH [])) (by kernel_rfl) ?_
      refine ok_keep [0, 1, 20] (env' := [(0, .str a0), (1, .int .i64 a1), (20, .bool (decide (x0_9 = 92)))]) (by kernel_rfl) ?_
      exact hj3 (decide (x0_9 = 92))
    · refine ok_run 7 (p' := g63p2) (env' := [(20, .bool false), (19, .tuple []), (18, .tuple []), (17, .tuple []), (16, .tuple []), (15, .tuple []), (14, .bool false), (14, .bool (decide (fwrap .i64 (a1 + 1) < (a0.length : Int)))), (13, .bool (decide (fwrap .i64 (a1 + 1) < (a0.length : Int)))), (12, .int .i64 (a0.length : Int)), (11, .str a0), (10, .int .i64 (fwrap .i64 (a1 + 1))), (9, .int .i64 a1), (4, .int .i64 0), (0, .str a0), (1, .int .i64 a1)]) (H' := (mkH [])) (by kernel_rfl) ?_
      refine ok_keep [0, 1, 20] (env' := [(0, .str a0), (1, .int .i64 a1), (20, .bool false)]) (by kernel_rfl) ?_
      exact hj3 false
end Go.Proofs.Ytbmijiibfaacmaa.Am
