/- Function 23, plain, and that the program computes it. Printed by gen.py. -/
import Derived.Test.YtfkefelgjbfkjaaTy
import Derived.Test.YtfkefelgjbfkjaaG22
set_option maxRecDepth 100000
set_option linter.unusedVariables false
namespace Go.Proofs.Ytfkefelgjbfkjaa.Am
open Go

/-! 23 galley/cell.Last -/
noncomputable def X23 : Fx Int := ⟨Try.prog, cx, Try.f23, fun r => .int .i64 r, cxTi, cxOrd⟩
noncomputable def g23p0 : Pt := nav [0] (bodyAt Try.f23)
noncomputable def g23p1 : Pt := nav [0, 0, 0, 0] g23p0
noncomputable def g23p2 : Pt := nav [0, 0, 0, 0] g23p1
noncomputable def g23p3 : Pt := nav [0, 0, 0] g23p2
noncomputable def g23p4 : Pt := nav [0, 0] g23p3
noncomputable def g23p5 : Pt := nav [1, 0, 0, 0, 0] g23p4
noncomputable def g23p6 : Pt := nav [2, 0, 0] g23p4
noncomputable def g23p7 : Pt := nav [0, 0] g23p5
noncomputable def g23p9 : Pt := nav [1, 0] g23p7
noncomputable def g23p10 : Pt := nav [2, 0] g23p7
noncomputable def g23_l3 (k : Nat)  (a0 : (List Nat)) (a1 : Int) (n : Nat) : Int → Option Int :=
  Nat.rec (motive := fun _ => Int → Option Int) (fun _ => none) (fun _ ih => fun (y3_0 : Int) => if (decide (0 ≤ y3_0)) then ((nthS a0 y3_0).bind fun x0_2 => if (decide (x0_2 = 10)) then ((subL a0 (some (fwrap .i64 (y3_0 + 1))) none).bind fun x1_3 => (g22 k x1_3).bind fun x1_4 => some x1_4) else (ih (fwrap .i64 (y3_0 - 1)))) else ((g22 k a0).bind fun x2_2 => some (fwrap .i64 (a1 + x2_2)))) n
theorem g23_l3_s (k : Nat)  (a0 : (List Nat)) (a1 : Int) (n : Nat) (y3_0 : Int) : g23_l3 k a0 a1 (n + 1) y3_0 = (if (decide (0 ≤ y3_0)) then ((nthS a0 y3_0).bind fun x0_2 => if (decide (x0_2 = 10)) then ((subL a0 (some (fwrap .i64 (y3_0 + 1))) none).bind fun x1_3 => (g22 k x1_3).bind fun x1_4 => some x1_4) else ((g23_l3 k a0 a1 n) (fwrap .i64 (y3_0 - 1)))) else ((g22 k a0).bind fun x2_2 => some (fwrap .i64 (a1 + x2_2)))) := rfl
theorem g23_l3_ok (k : Nat)  (a0 : (List Nat)) (a1 : Int)  : ∀ (n : Nat) (y3_0 : Int), Ok X23 g23p2 [(0, .str a0), (1, .int .i64 a1), (5, .int .i64 y3_0)] (mkH []) (g23_l3 k a0 a1 n y3_0)
  | 0, _ => ok_none
  | n + 1, y3_0 => by
    have ih := g23_l3_ok k a0 a1 n
    rw [g23_l3_s]
    refine ok_ent (p' := nav [0] g23p2) (by kernel_rfl) ?_
    refine ok_run 6 (p' := g23p4) (env' := [(10, .bool (decide (0 ≤ y3_0))), (9, .int .i64 y3_0), (0, .str a0), (1, .int .i64 a1), (5, .int .i64 y3_0)]) (H' := (mkH [])) (by kernel_rfl) ?_
    refine ok_split 10 (b := decide (0 ≤ y3_0)) (by kernel_rfl) (fun hb => ?_) (fun hb => ?_)
    · refine ok_run 8 (p' := (atN 2 (ctl1 g23p5))) (env' := [(14, .int .i64 y3_0), (13, .str a0), (10, .bool true), (10, .bool (decide (0 ≤ y3_0))), (9, .int .i64 y3_0), (0, .str a0), (1, .int .i64 a1), (5, .int .i64 y3_0)]) (H' := (mkH [])) (by kernel_rfl) ?_
      refine ok_chk (fun (x0_2 : Int) => (.int .u8 x0_2, (mkH []))) (atN 3 (ctl1 g23p5)) (fun x0_2 => [(15, .int .u8 x0_2), (14, .int .i64 y3_0), (13, .str a0), (10, .bool true), (10, .bool (decide (0 ≤ y3_0))), (9, .int .i64 y3_0), (0, .str a0), (1, .int .i64 a1), (5, .int .i64 y3_0)]) (idxH (by kernel_rfl)) (fun _ => by kernel_rfl) (fun x0_2 hx0_2 => ?_)
      refine ok_run 2 (p' := g23p7) (env' := [(16, .bool (decide (x0_2 = 10))), (15, .int .u8 x0_2), (14, .int .i64 y3_0), (13, .str a0), (10, .bool true), (10, .bool (decide (0 ≤ y3_0))), (9, .int .i64 y3_0), (0, .str a0), (1, .int .i64 a1), (5, .int .i64 y3_0)]) (H' := (mkH [])) (by kernel_rfl) ?_
      refine ok_split 16 (b := decide (x0_2 = 10)) (by kernel_rfl) (fun hb => ?_) (fun hb => ?_)
      · refine ok_run 6 (p' := (atN 3 (ctl1 g23p9))) (env' := [(19, .int .i64 (fwrap .i64 (y3_0 + 1))), (18, .int .i64 y3_0), (17, .str a0), (16, .bool true), (16, .bool (decide (x0_2 = 10))), (15, .int .u8 x0_2), (14, .int .i64 y3_0), (13, .str a0), (10, .bool true), (10, .bool (decide (0 ≤ y3_0))), (9, .int .i64 y3_0), (0, .str a0), (1, .int .i64 a1), (5, .int .i64 y3_0)]) (H' := (mkH [])) (by kernel_rfl) ?_
        refine ok_chk (fun (x1_3 : (List Nat)) => (.str x1_3, (mkH []))) (atN 4 (ctl1 g23p9)) (fun x1_3 => [(20, .str x1_3), (19, .int .i64 (fwrap .i64 (y3_0 + 1))), (18, .int .i64 y3_0), (17, .str a0), (16, .bool true), (16, .bool (decide (x0_2 = 10))), (15, .int .u8 x0_2), (14, .int .i64 y3_0), (13, .str a0), (10, .bool true), (10, .bool (decide (0 ≤ y3_0))), (9, .int .i64 y3_0), (0, .str a0), (1, .int .i64 a1), (5, .int .i64 y3_0)]) (subH (some (fwrap .i64 (y3_0 + 1))) none (by kernel_rfl)) (fun _ => by kernel_rfl) (fun x1_3 hx1_3 => ?_)
        refine ok_call (fun (x1_4 : Int) => .int .i64 x1_4) (atN 5 (ctl1 g23p9)) (fun x1_4 => [(21, .int .i64 x1_4), (20, .str x1_3), (19, .int .i64 (fwrap .i64 (y3_0 + 1))), (18, .int .i64 y3_0), (17, .str a0), (16, .bool true), (16, .bool (decide (x0_2 = 10))), (15, .int .u8 x0_2), (14, .int .i64 y3_0), (13, .str a0), (10, .bool true), (10, .bool (decide (0 ≤ y3_0))), (9, .int .i64 y3_0), (0, .str a0), (1, .int .i64 a1), (5, .int .i64 y3_0)]) (fi := 22) (args := [.str x1_3]) (by kernel_rfl) (by kernel_rfl) (fun _ => by kernel_rfl) (fun r h => g22_ok k x1_3 r h) (fun _ => by kernel_rfl) (fun x1_4 hx1_4 => ?_)
        refine ok_run 3 (p' := .fin) (env' := [(4, .int .i64 x1_4), (21, .int .i64 x1_4), (20, .str x1_3), (19, .int .i64 (fwrap .i64 (y3_0 + 1))), (18, .int .i64 y3_0), (17, .str a0), (16, .bool true), (16, .bool (decide (x0_2 = 10))), (15, .int .u8 x0_2), (14, .int .i64 y3_0), (13, .str a0), (10, .bool true), (10, .bool (decide (0 ≤ y3_0))), (9, .int .i64 y3_0), (0, .str a0), (1, .int .i64 a1), (5, .int .i64 y3_0)]) (H' := (mkH [])) (by kernel_rfl) ?_
        exact ok_ret (r := x1_4) (xs := [.int .i64 x1_4]) (v := .int .i64 x1_4) (by kernel_rfl) (.pures (by kernel_rfl)) (by kernel_rfl)
      · refine ok_run 7 (p' := g23p2) (env' := [(5, .int .i64 (fwrap .i64 (y3_0 - 1))), (12, .int .i64 (fwrap .i64 (y3_0 - 1))), (11, .int .i64 y3_0), (16, .bool false), (16, .bool (decide (x0_2 = 10))), (15, .int .u8 x0_2), (14, .int .i64 y3_0), (13, .str a0), (10, .bool true), (10, .bool (decide (0 ≤ y3_0))), (9, .int .i64 y3_0), (0, .str a0), (1, .int .i64 a1), (5, .int .i64 y3_0)]) (H' := (mkH [])) (by kernel_rfl) ?_
        refine ok_keep [0, 1, 5] (env' := [(0, .str a0), (1, .int .i64 a1), (5, .int .i64 (fwrap .i64 (y3_0 - 1)))]) (by kernel_rfl) ?_
        exact ih (fwrap .i64 (y3_0 - 1))
    · refine ok_run 6 (p' := (atN 2 (ctl1 g23p6))) (env' := [(23, .str a0), (22, .int .i64 a1), (10, .bool false), (10, .bool (decide (0 ≤ y3_0))), (9, .int .i64 y3_0), (0, .str a0), (1, .int .i64 a1), (5, .int .i64 y3_0)]) (H' := (mkH [])) (by kernel_rfl) ?_
      refine ok_call (fun (x2_2 : Int) => .int .i64 x2_2) (atN 3 (ctl1 g23p6)) (fun x2_2 => [(24, .int .i64 x2_2), (23, .str a0), (22, .int .i64 a1), (10, .bool false), (10, .bool (decide (0 ≤ y3_0))), (9, .int .i64 y3_0), (0, .str a0), (1, .int .i64 a1), (5, .int .i64 y3_0)]) (fi := 22) (args := [.str a0]) (by kernel_rfl) (by kernel_rfl) (fun _ => by kernel_rfl) (fun r h => g22_ok k a0 r h) (fun _ => by kernel_rfl) (fun x2_2 hx2_2 => ?_)
      refine ok_run 4 (p' := .fin) (env' := [(4, .int .i64 (fwrap .i64 (a1 + x2_2))), (25, .int .i64 (fwrap .i64 (a1 + x2_2))), (24, .int .i64 x2_2), (23, .str a0), (22, .int .i64 a1), (10, .bool false), (10, .bool (decide (0 ≤ y3_0))), (9, .int .i64 y3_0), (0, .str a0), (1, .int .i64 a1), (5, .int .i64 y3_0)]) (H' := (mkH [])) (by kernel_rfl) ?_
      exact ok_ret (r := (fwrap .i64 (a1 + x2_2))) (xs := [.int .i64 (fwrap .i64 (a1 + x2_2))]) (v := .int .i64 (fwrap .i64 (a1 + x2_2))) (by kernel_rfl) (.pures (by kernel_rfl)) (by kernel_rfl)
noncomputable def g23 (k : Nat) (a0 : (List Nat)) (a1 : Int) : Option Int :=
  g23_l3 k a0 a1 k (fwrap .i64 ((a0.length : Int) - 1))
theorem g23_ok (k : Nat) (a0 : (List Nat)) (a1 : Int) (r : Int) (h : g23 k a0 a1 = some r) : PureOk Try.prog 23 [.str a0, .int .i64 a1] (.int .i64 r) := by
  refine pure_of X23 Try.func23 (by decide +kernel) (by kernel_rfl) (t := g23 k a0 a1) ?_ h
  unfold g23
  refine ok_env (env' := [(0, .str a0), (1, .int .i64 a1)]) (by kernel_rfl) ?_
  refine ok_run 14 (p' := g23p2) (env' := [(5, .int .i64 (fwrap .i64 ((a0.length : Int) - 1))), (8, .int .i64 (fwrap .i64 ((a0.length : Int) - 1))), (7, .int .i64 (a0.length : Int)), (6, .str a0), (4, .int .i64 0), (0, .str a0), (1, .int .i64 a1)]) (H' := (mkH [])) (by kernel_rfl) ?_
  refine ok_keep [0, 1, 5] (env' := [(0, .str a0), (1, .int .i64 a1), (5, .int .i64 (fwrap .i64 ((a0.length : Int) - 1)))]) (by kernel_rfl) ?_
  exact (g23_l3_ok k a0 a1 k) (fwrap .i64 ((a0.length : Int) - 1))
end Go.Proofs.Ytfkefelgjbfkjaa.Am
