/- Function 24, plain, and that the program computes it. Printed by gen.py. -/
import Derived.Test.YtfkefelgjbfkjaaTy
import Derived.Test.YtfkefelgjbfkjaaG18
set_option maxRecDepth 100000
set_option linter.unusedVariables false
namespace Go.Proofs.Ytfkefelgjbfkjaa.Am
open Go

/-! 24 galley/galleyref1.Last -/
noncomputable def X24 : Fx Int := ⟨Try.prog, cx, Try.f24, fun r => .int .i64 r, cxTi, cxOrd⟩
noncomputable def g24p0 : Pt := nav [0] (bodyAt Try.f24)
noncomputable def g24p1 : Pt := nav [0, 0, 0] g24p0
noncomputable def g24p2 : Pt := nav [0, 0, 0, 0, 0] g24p1
noncomputable def g24p3 : Pt := nav [0, 0, 0] g24p2
noncomputable def g24p4 : Pt := nav [0, 0] g24p3
noncomputable def g24p5 : Pt := nav [1, 0, 0] g24p4
noncomputable def g24p6 : Pt := nav [2, 0, 0, 0] g24p4
noncomputable def g24p7 : Pt := nav [0, 0] g24p6
noncomputable def g24p8 : Pt := nav [1, 0] g24p7
noncomputable def g24p9 : Pt := nav [2, 0, 0] g24p7
noncomputable def g24_l3 (k : Nat)  (a0 : (List Nat)) (a1 : Int) (n : Nat) : Int → Option Int :=
  Nat.rec (motive := fun _ => Int → Option Int) (fun _ => none) (fun _ ih => fun (y3_0 : Int) => jn (fun (z4 : Bool × Int) => if z4.1 then (ih (fwrap .i64 (z4.2 - 1))) else (if (decide (z4.2 = 0)) then ((g18 k a0).bind fun x1_2 => some (fwrap .i64 (a1 + x1_2))) else ((subL a0 (some z4.2) none).bind fun x2_2 => (g18 k x2_2).bind fun x2_3 => some x2_3))) (fun j4 => if (decide (0 < y3_0)) then ((nthS a0 (fwrap .i64 (y3_0 - 1))).bind fun x0_6 => j4 (!decide (x0_6 = 10), y3_0)) else (j4 (false, y3_0)))) n
theorem g24_l3_s (k : Nat)  (a0 : (List Nat)) (a1 : Int) (n : Nat) (y3_0 : Int) : g24_l3 k a0 a1 (n + 1) y3_0 = (jn (fun (z4 : Bool × Int) => if z4.1 then ((g24_l3 k a0 a1 n) (fwrap .i64 (z4.2 - 1))) else (if (decide (z4.2 = 0)) then ((g18 k a0).bind fun x1_2 => some (fwrap .i64 (a1 + x1_2))) else ((subL a0 (some z4.2) none).bind fun x2_2 => (g18 k x2_2).bind fun x2_3 => some x2_3))) (fun j4 => if (decide (0 < y3_0)) then ((nthS a0 (fwrap .i64 (y3_0 - 1))).bind fun x0_6 => j4 (!decide (x0_6 = 10), y3_0)) else (j4 (false, y3_0)))) := rfl
theorem g24_l3_ok (k : Nat)  (a0 : (List Nat)) (a1 : Int)  : ∀ (n : Nat) (y3_0 : Int), Ok X24 g24p2 [(0, .str a0), (1, .int .i64 a1), (5, .int .i64 y3_0)] (mkH []) (g24_l3 k a0 a1 n y3_0)
  | 0, _ => ok_none
  | n + 1, y3_0 => by
    have ih := g24_l3_ok k a0 a1 n
    rw [g24_l3_s]
    refine ok_ent (p' := nav [0] g24p2) (by kernel_rfl) ?_
    refine ok_run 6 (p' := (atN 3 (ctl1 g24p3))) (env' := [(10, .bool (decide (0 < y3_0))), (9, .bool (decide (0 < y3_0))), (8, .int .i64 y3_0), (0, .str a0), (1, .int .i64 a1), (5, .int .i64 y3_0)]) (H' := (mkH [])) (by kernel_rfl) ?_
    refine ok_jn (f := fun (z4 : Bool × Int) => if z4.1 then ((g24_l3 k a0 a1 n) (fwrap .i64 (z4.2 - 1))) else (if (decide (z4.2 = 0)) then ((g18 k a0).bind fun x1_2 => some (fwrap .i64 (a1 + x1_2))) else ((subL a0 (some z4.2) none).bind fun x2_2 => (g18 k x2_2).bind fun x2_3 => some x2_3))) g24p4 (fun (z4 : Bool × Int) => [(0, .str a0), (1, .int .i64 a1), (5, .int .i64 z4.2), (16, .bool z4.1)]) (fun (z4 : Bool × Int) => (mkH [])) (fun z4 => ?_) (fun j4 hj4 => ?_)
    · refine ok_split 16 (b := z4.1) (by kernel_rfl) (fun hb => ?_) (fun hb => ?_)
      · refine ok_run 8 (p' := g24p2) (env' := [(5, .int .i64 (fwrap .i64 (z4.2 - 1))), (18, .int .i64 (fwrap .i64 (z4.2 - 1))), (17, .int .i64 z4.2), (16, .bool true), (0, .str a0), (1, .int .i64 a1), (5, .int .i64 z4.2), (16, .bool z4.1)]) (H' := (mkH [])) (by kernel_rfl) ?_
        refine ok_keep [0, 1, 5] (env' := [(0, .str a0), (1, .int .i64 a1), (5, .int .i64 (fwrap .i64 (z4.2 - 1)))]) (by kernel_rfl) ?_
        exact ih (fwrap .i64 (z4.2 - 1))
      · refine ok_run 8 (p' := g24p7) (env' := [(20, .bool (decide (z4.2 = 0))), (19, .int .i64 z4.2), (16, .bool false), (0, .str a0), (1, .int .i64 a1), (5, .int .i64 z4.2), (16, .bool z4.1)]) (H' := (mkH [])) (by kernel_rfl) ?_
        refine ok_split 20 (b := decide (z4.2 = 0)) (by kernel_rfl) (fun hb => ?_) (fun hb => ?_)
        · refine ok_run 5 (p' := (atN 2 (ctl1 g24p8))) (env' := [(22, .str a0), (21, .int .i64 a1), (20, .bool true), (20, .bool (decide (z4.2 = 0))), (19, .int .i64 z4.2), (16, .bool false), (0, .str a0), (1, .int .i64 a1), (5, .int .i64 z4.2), (16, .bool z4.1)]) (H' := (mkH [])) (by kernel_rfl) ?_
          refine ok_call (fun (x1_2 : Int) => .int .i64 x1_2) (atN 3 (ctl1 g24p8)) (fun x1_2 => [(23, .int .i64 x1_2), (22, .str a0), (21, .int .i64 a1), (20, .bool true), (20, .bool (decide (z4.2 = 0))), (19, .int .i64 z4.2), (16, .bool false), (0, .str a0), (1, .int .i64 a1), (5, .int .i64 z4.2), (16, .bool z4.1)]) (fi := 18) (args := [.str a0]) (by kernel_rfl) (by kernel_rfl) (fun _ => by kernel_rfl) (fun r h => g18_ok k a0 r h) (fun _ => by kernel_rfl) (fun x1_2 hx1_2 => ?_)
          refine ok_run 4 (p' := .fin) (env' := [(4, .int .i64 (fwrap .i64 (a1 + x1_2))), (24, .int .i64 (fwrap .i64 (a1 + x1_2))), (23, .int .i64 x1_2), (22, .str a0), (21, .int .i64 a1), (20, .bool true), (20, .bool (decide (z4.2 = 0))), (19, .int .i64 z4.2), (16, .bool false), (0, .str a0), (1, .int .i64 a1), (5, .int .i64 z4.2), (16, .bool z4.1)]) (H' := (mkH [])) (by kernel_rfl) ?_
          exact ok_ret (r := (fwrap .i64 (a1 + x1_2))) (xs := [.int .i64 (fwrap .i64 (a1 + x1_2))]) (v := .int .i64 (fwrap .i64 (a1 + x1_2))) (by kernel_rfl) (.pures (by kernel_rfl)) (by kernel_rfl)
        · refine ok_run 6 (p' := (atN 2 (ctl1 g24p9))) (env' := [(26, .int .i64 z4.2), (25, .str a0), (20, .bool false), (20, .bool (decide (z4.2 = 0))), (19, .int .i64 z4.2), (16, .bool false), (0, .str a0), (1, .int .i64 a1), (5, .int .i64 z4.2), (16, .bool z4.1)]) (H' := (mkH [])) (by kernel_rfl) ?_
          refine ok_chk (fun (x2_2 : (List Nat)) => (.str x2_2, (mkH []))) (atN 3 (ctl1 g24p9)) (fun x2_2 => [(27, .str x2_2), (26, .int .i64 z4.2), (25, .str a0), (20, .bool false), (20, .bool (decide (z4.2 = 0))), (19, .int .i64 z4.2), (16, .bool false), (0, .str a0), (1, .int .i64 a1), (5, .int .i64 z4.2), (16, .bool z4.1)]) (subH (some z4.2) none (by kernel_rfl)) (fun _ => by kernel_rfl) (fun x2_2 hx2_2 => ?_)
          refine ok_call (fun (x2_3 : Int) => .int .i64 x2_3) (atN 4 (ctl1 g24p9)) (fun x2_3 => [(28, .int .i64 x2_3), (27, .str x2_2), (26, .int .i64 z4.2), (25, .str a0), (20, .bool false), (20, .bool (decide (z4.2 = 0))), (19, .int .i64 z4.2), (16, .bool false), (0, .str a0), (1, .int .i64 a1), (5, .int .i64 z4.2), (16, .bool z4.1)]) (fi := 18) (args := [.str x2_2]) (by kernel_rfl) (by kernel_rfl) (fun _ => by kernel_rfl) (fun r h => g18_ok k x2_2 r h) (fun _ => by kernel_rfl) (fun x2_3 hx2_3 => ?_)
          refine ok_run 3 (p' := .fin) (env' := [(4, .int .i64 x2_3), (28, .int .i64 x2_3), (27, .str x2_2), (26, .int .i64 z4.2), (25, .str a0), (20, .bool false), (20, .bool (decide (z4.2 = 0))), (19, .int .i64 z4.2), (16, .bool false), (0, .str a0), (1, .int .i64 a1), (5, .int .i64 z4.2), (16, .bool z4.1)]) (H' := (mkH [])) (by kernel_rfl) ?_
          exact ok_ret (r := x2_3) (xs := [.int .i64 x2_3]) (v := .int .i64 x2_3) (by kernel_rfl) (.pures (by kernel_rfl)) (by kernel_rfl)
    · refine ok_split 10 (b := decide (0 < y3_0)) (by kernel_rfl) (fun hb => ?_) (fun hb => ?_)
      · refine ok_run 3 (p' := (atN 6 (ctl1 g24p3))) (env' := [(13, .int .i64 (fwrap .i64 (y3_0 - 1))), (12, .int .i64 y3_0), (11, .str a0), (10, .bool true), (10, .bool (decide (0 < y3_0))), (9, .bool (decide (0 < y3_0))), (8, .int .i64 y3_0), (0, .str a0), (1, .int .i64 a1), (5, .int .i64 y3_0)]) (H' := (mkH [])) (by kernel_rfl) ?_
        refine ok_chk (fun (x0_6 : Int) => (.int .u8 x0_6, (mkH []))) (atN 7 (ctl1 g24p3)) (fun x0_6 => [(14, .int .u8 x0_6), (13, .int .i64 (fwrap .i64 (y3_0 - 1))), (12, .int .i64 y3_0), (11, .str a0), (10, .bool true), (10, .bool (decide (0 < y3_0))), (9, .bool (decide (0 < y3_0))), (8, .int .i64 y3_0), (0, .str a0), (1, .int .i64 a1), (5, .int .i64 y3_0)]) (idxH (by kernel_rfl)) (fun _ => by kernel_rfl) (fun x0_6 hx0_6 => ?_)
        refine ok_run 3 (p' := g24p4) (env' := [(16, .bool (!decide (x0_6 = 10))), (15, .bool (!decide (x0_6 = 10))), (14, .int .u8 x0_6), (13, .int .i64 (fwrap .i64 (y3_0 - 1))), (12, .int .i64 y3_0), (11, .str a0), (10, .bool true), (10, .bool (decide (0 < y3_0))), (9, .bool (decide (0 < y3_0))), (8, .int .i64 y3_0), (0, .str a0), (1, .int .i64 a1), (5, .int .i64 y3_0)]) (H' := (mkH [])) (by kernel_rfl) ?_
        refine ok_keep [0, 1, 5, 16] (env' := [(0, .str a0), (1, .int .i64 a1), (5, .int .i64 y3_0), (16, .bool (!decide (x0_6 = 10)))]) (by kernel_rfl) ?_
        exact hj4 (!decide (x0_6 = 10), y3_0)
      · refine ok_run 7 (p' := g24p4) (env' := [(16, .bool false), (15, .tuple []), (14, .tuple []), (13, .tuple []), (12, .tuple []), (11, .tuple []), (10, .bool false), (10, .bool (decide (0 < y3_0))), (9, .bool (decide (0 < y3_0))), (8, .int .i64 y3_0), (0, .str a0), (1, .int .i64 a1), (5, .int .i64 y3_0)]) (H' := (mkH [])) (by kernel_rfl) ?_
        refine ok_keep [0, 1, 5, 16] (env' := [(0, .str a0), (1, .int .i64 a1), (5, .int .i64 y3_0), (16, .bool false)]) (by kernel_rfl) ?_
        exact hj4 (false, y3_0)
noncomputable def g24 (k : Nat) (a0 : (List Nat)) (a1 : Int) : Option Int :=
  g24_l3 k a0 a1 k (a0.length : Int)
theorem g24_ok (k : Nat) (a0 : (List Nat)) (a1 : Int) (r : Int) (h : g24 k a0 a1 = some r) : PureOk Try.prog 24 [.str a0, .int .i64 a1] (.int .i64 r) := by
  refine pure_of X24 Try.func24 (by decide +kernel) (by kernel_rfl) (t := g24 k a0 a1) ?_ h
  unfold g24
  refine ok_env (env' := [(0, .str a0), (1, .int .i64 a1)]) (by kernel_rfl) ?_
  refine ok_run 13 (p' := g24p2) (env' := [(5, .int .i64 (a0.length : Int)), (7, .int .i64 (a0.length : Int)), (6, .str a0), (4, .int .i64 0), (0, .str a0), (1, .int .i64 a1)]) (H' := (mkH [])) (by kernel_rfl) ?_
  refine ok_keep [0, 1, 5] (env' := [(0, .str a0), (1, .int .i64 a1), (5, .int .i64 (a0.length : Int))]) (by kernel_rfl) ?_
  exact (g24_l3_ok k a0 a1 k) (a0.length : Int)
end Go.Proofs.Ytfkefelgjbfkjaa.Am
