/- Function 23, plain, and that the program computes it. Printed by gen.py. -/
import Derived.Test.YtnikdnchoahngaaTy
import Derived.Test.YtnikdnchoahngaaG44
set_option maxRecDepth 100000
set_option linter.unusedVariables false
namespace Go.Proofs.Ytnikdnchoahngaa.Am
open Go

/-! 23 galley/ops.Binary -/
noncomputable def X23 : Fx Int := ⟨Try.prog, cx, Try.f23, fun r => .int .i64 r, 0, fun _ => H0, cxTi, cxOrd⟩
noncomputable def g23p0 : Pt := nav [0] (bodyAt Try.f23)
noncomputable def g23p1 : Pt := nav [0, 0, 0, 0] g23p0
noncomputable def g23p2 : Pt := nav [0, 0, 0, 0] g23p1
noncomputable def g23p3 : Pt := nav [0, 0] g23p2
noncomputable def g23p4 : Pt := nav [0, 0, 0] g23p3
noncomputable def g23p5 : Pt := nav [1, 0, 0, 0, 0] g23p4
noncomputable def g23p6 : Pt := nav [2, 0, 0] g23p4
noncomputable def g23p7 : Pt := nav [0, 0, 0] g23p5
noncomputable def g23p9 : Pt := nav [0, 0, 0, 0] g23p7
noncomputable def g23p10 : Pt := nav [0, 0] g23p9
noncomputable def g23p11 : Pt := nav [0, 0, 0] g23p10
noncomputable def g23p12 : Pt := nav [1, 0, 0, 0, 0] g23p11
noncomputable def g23p13 : Pt := nav [2, 0] g23p11
noncomputable def g23p14 : Pt := nav [0, 0, 0] g23p12
noncomputable def g23p15 : Pt := nav [0, 0] g23p14
noncomputable def g23p16 : Pt := nav [1, 0] g23p15
noncomputable def g23p17 : Pt := nav [2, 0] g23p15
noncomputable def g23_l4 (k : Nat) (c3 : Int → Option Int) (a0 : (List Nat)) (x0_0 : (List (List (List Nat)))) (y3_0 : Int) (x1_1 : (List (List Nat))) (n : Nat) : Int → Int → Int → Option Int :=
  Nat.rec (motive := fun _ => Int → Int → Int → Option Int) (fun _ _ _ => none) (fun _ ih => fun (y4_0 : Int) (y4_1 : Int) (y4_2 : Int) => jn (fun (z5 : Int) => c3 (fwrap .i64 (z5 + 1))) (fun j5 => if (decide (y4_0 < (x1_1.length : Int))) then ((nthL x1_1 y4_0).bind fun x2_0 => if (eqL x2_0 a0) then (some (fwrap .i64 (y4_1 + 1))) else (ih (fwrap .i64 (y4_0 + 1)) y4_1 y4_2)) else (j5 y4_2))) n
theorem g23_l4_s (k : Nat) (c3 : Int → Option Int) (a0 : (List Nat)) (x0_0 : (List (List (List Nat)))) (y3_0 : Int) (x1_1 : (List (List Nat))) (n : Nat) (y4_0 : Int) (y4_1 : Int) (y4_2 : Int) : g23_l4 k c3 a0 x0_0 y3_0 x1_1 (n + 1) y4_0 y4_1 y4_2 = (jn (fun (z5 : Int) => c3 (fwrap .i64 (z5 + 1))) (fun j5 => if (decide (y4_0 < (x1_1.length : Int))) then ((nthL x1_1 y4_0).bind fun x2_0 => if (eqL x2_0 a0) then (some (fwrap .i64 (y4_1 + 1))) else ((g23_l4 k c3 a0 x0_0 y3_0 x1_1 n) (fwrap .i64 (y4_0 + 1)) y4_1 y4_2)) else (j5 y4_2))) := rfl
theorem g23_l4_ok (k : Nat) (c3 : Int → Option Int) (a0 : (List Nat)) (x0_0 : (List (List (List Nat)))) (y3_0 : Int) (x1_1 : (List (List Nat))) (hc3 : ∀ (y3_0 : Int), Ok X23 g23p2 [(0, .str a0), (7, .agg ((x0_0).map v29)), (8, .int .i64 y3_0)] (mkH []) (c3 y3_0)) : ∀ (n : Nat) (y4_0 : Int) (y4_1 : Int) (y4_2 : Int), Ok X23 g23p9 [(0, .str a0), (3, .int .i64 y4_1), (7, .agg ((x0_0).map v29)), (8, .int .i64 y4_2), (12, .vec (x1_1).length 1 ((x1_1).flatMap e9)), (13, .int .i64 (x1_1.length : Int)), (14, .int .i64 y4_0)] (mkH []) (g23_l4 k c3 a0 x0_0 y3_0 x1_1 n y4_0 y4_1 y4_2)
  | 0, _, _, _ => ok_none
  | n + 1, y4_0, y4_1, y4_2 => by
    have ih := g23_l4_ok k c3 a0 x0_0 y3_0 x1_1 hc3 n
    rw [g23_l4_s]
    refine ok_ent (p' := nav [0] g23p9) (by kernel_rfl) ?_
    refine ok_run 5 (p' := g23p11) (env' := [(15, .bool (decide (y4_0 < (x1_1.length : Int)))), (0, .str a0), (3, .int .i64 y4_1), (7, .agg ((x0_0).map v29)), (8, .int .i64 y4_2), (12, .vec (x1_1).length 1 ((x1_1).flatMap e9)), (13, .int .i64 (x1_1.length : Int)), (14, .int .i64 y4_0)]) (H' := (mkH [])) (by kernel_rfl) ?_
    refine ok_jn (f := fun (z5 : Int) => c3 (fwrap .i64 (z5 + 1))) g23p13 (fun (z5 : Int) => [(0, .str a0), (7, .agg ((x0_0).map v29)), (8, .int .i64 z5)]) (fun (z5 : Int) => (mkH [])) (fun z5 => ?_) (fun j5 hj5 => ?_)
    · refine ok_run 4 (p' := g23p2) (env' := [(8, .int .i64 (fwrap .i64 (z5 + 1))), (24, .int .i64 (fwrap .i64 (z5 + 1))), (0, .str a0), (7, .agg ((x0_0).map v29)), (8, .int .i64 z5)]) (H' := (mkH [])) (by kernel_rfl) ?_
      refine ok_keep [0, 7, 8] (env' := [(0, .str a0), (7, .agg ((x0_0).map v29)), (8, .int .i64 (fwrap .i64 (z5 + 1)))]) (by kernel_rfl) ?_
      exact hc3 (fwrap .i64 (z5 + 1))
    · refine ok_split 15 (b := decide (y4_0 < (x1_1.length : Int))) (by kernel_rfl) (fun hb => ?_) (fun hb => ?_)
      · refine ok_run 6 (p' := (atN 0 (ctl1 g23p12))) (env' := [(15, .bool true), (15, .bool (decide (y4_0 < (x1_1.length : Int)))), (0, .str a0), (3, .int .i64 y4_1), (7, .agg ((x0_0).map v29)), (8, .int .i64 y4_2), (12, .vec (x1_1).length 1 ((x1_1).flatMap e9)), (13, .int .i64 (x1_1.length : Int)), (14, .int .i64 y4_0)]) (H' := (mkH [])) (by kernel_rfl) ?_
        refine ok_chk (fun (x2_0 : (List Nat)) => (.vptr [.str x2_0], (mkH []))) (atN 1 (ctl1 g23p12)) (fun x2_0 => [(16, .vptr [.str x2_0]), (15, .bool true), (15, .bool (decide (y4_0 < (x1_1.length : Int)))), (0, .str a0), (3, .int .i64 y4_1), (7, .agg ((x0_0).map v29)), (8, .int .i64 y4_2), (12, .vec (x1_1).length 1 ((x1_1).flatMap e9)), (13, .int .i64 (x1_1.length : Int)), (14, .int .i64 y4_0)]) (vidxH (sz := 1) e9_len (by kernel_rfl)) (fun _ => by kernel_rfl) (fun x2_0 hx2_0 => ?_)
        refine ok_run 9 (p' := g23p15) (env' := [(20, .bool (eqL x2_0 a0)), (19, .str a0), (18, .str x2_0), (6, .str x2_0), (17, .str x2_0), (16, .vptr [.str x2_0]), (15, .bool true), (15, .bool (decide (y4_0 < (x1_1.length : Int)))), (0, .str a0), (3, .int .i64 y4_1), (7, .agg ((x0_0).map v29)), (8, .int .i64 y4_2), (12, .vec (x1_1).length 1 ((x1_1).flatMap e9)), (13, .int .i64 (x1_1.length : Int)), (14, .int .i64 y4_0)]) (H' := (mkH [])) (by kernel_rfl) ?_
        refine ok_split 20 (b := eqL x2_0 a0) (by kernel_rfl) (fun hb => ?_) (fun hb => ?_)
        · refine ok_run 8 (p' := .fin) (env' := [(2, .int .i64 (fwrap .i64 (y4_1 + 1))), (22, .int .i64 (fwrap .i64 (y4_1 + 1))), (21, .int .i64 y4_1), (20, .bool true), (20, .bool (eqL x2_0 a0)), (19, .str a0), (18, .str x2_0), (6, .str x2_0), (17, .str x2_0), (16, .vptr [.str x2_0]), (15, .bool true), (15, .bool (decide (y4_0 < (x1_1.length : Int)))), (0, .str a0), (3, .int .i64 y4_1), (7, .agg ((x0_0).map v29)), (8, .int .i64 y4_2), (12, .vec (x1_1).length 1 ((x1_1).flatMap e9)), (13, .int .i64 (x1_1.length : Int)), (14, .int .i64 y4_0)]) (H' := (mkH [])) (by kernel_rfl) ?_
          exact ok_ret (r := (fwrap .i64 (y4_1 + 1))) (xs := [.int .i64 (fwrap .i64 (y4_1 + 1))]) (v := .int .i64 (fwrap .i64 (y4_1 + 1))) (by kernel_rfl) (by kernel_rfl) (by kernel_rfl) (.pures (by kernel_rfl)) (by kernel_rfl)
        · refine ok_run 6 (p' := g23p9) (env' := [(14, .int .i64 (fwrap .i64 (y4_0 + 1))), (23, .int .i64 (fwrap .i64 (y4_0 + 1))), (20, .bool false), (20, .bool (eqL x2_0 a0)), (19, .str a0), (18, .str x2_0), (6, .str x2_0), (17, .str x2_0), (16, .vptr [.str x2_0]), (15, .bool true), (15, .bool (decide (y4_0 < (x1_1.length : Int)))), (0, .str a0), (3, .int .i64 y4_1), (7, .agg ((x0_0).map v29)), (8, .int .i64 y4_2), (12, .vec (x1_1).length 1 ((x1_1).flatMap e9)), (13, .int .i64 (x1_1.length : Int)), (14, .int .i64 y4_0)]) (H' := (mkH [])) (by kernel_rfl) ?_
          refine ok_keep [0, 3, 7, 8, 12, 13, 14] (env' := [(0, .str a0), (3, .int .i64 y4_1), (7, .agg ((x0_0).map v29)), (8, .int .i64 y4_2), (12, .vec (x1_1).length 1 ((x1_1).flatMap e9)), (13, .int .i64 (x1_1.length : Int)), (14, .int .i64 (fwrap .i64 (y4_0 + 1)))]) (by kernel_rfl) ?_
          exact ih (fwrap .i64 (y4_0 + 1)) y4_1 y4_2
      · refine ok_run 2 (p' := g23p13) (env' := [(15, .bool false), (15, .bool (decide (y4_0 < (x1_1.length : Int)))), (0, .str a0), (3, .int .i64 y4_1), (7, .agg ((x0_0).map v29)), (8, .int .i64 y4_2), (12, .vec (x1_1).length 1 ((x1_1).flatMap e9)), (13, .int .i64 (x1_1.length : Int)), (14, .int .i64 y4_0)]) (H' := (mkH [])) (by kernel_rfl) ?_
        refine ok_keep [0, 7, 8] (env' := [(0, .str a0), (7, .agg ((x0_0).map v29)), (8, .int .i64 y4_2)]) (by kernel_rfl) ?_
        exact hj5 y4_2
noncomputable def g23_l3 (k : Nat)  (a0 : (List Nat)) (x0_0 : (List (List (List Nat)))) (n : Nat) : Int → Option Int :=
  Nat.rec (motive := fun _ => Int → Option Int) (fun _ => none) (fun _ ih => fun (y3_0 : Int) => if (decide (y3_0 < 9)) then ((nthA x0_0 9 y3_0).bind fun x1_1 => g23_l4 k ih a0 x0_0 y3_0 x1_1 k 0 y3_0 y3_0) else (some (0 : Int))) n
theorem g23_l3_s (k : Nat)  (a0 : (List Nat)) (x0_0 : (List (List (List Nat)))) (n : Nat) (y3_0 : Int) : g23_l3 k a0 x0_0 (n + 1) y3_0 = (if (decide (y3_0 < 9)) then ((nthA x0_0 9 y3_0).bind fun x1_1 => g23_l4 k (g23_l3 k a0 x0_0 n) a0 x0_0 y3_0 x1_1 k 0 y3_0 y3_0) else (some (0 : Int))) := rfl
theorem g23_l3_ok (k : Nat)  (a0 : (List Nat)) (x0_0 : (List (List (List Nat))))  : ∀ (n : Nat) (y3_0 : Int), Ok X23 g23p2 [(0, .str a0), (7, .agg ((x0_0).map v29)), (8, .int .i64 y3_0)] (mkH []) (g23_l3 k a0 x0_0 n y3_0)
  | 0, _ => ok_none
  | n + 1, y3_0 => by
    have ih := g23_l3_ok k a0 x0_0 n
    rw [g23_l3_s]
    refine ok_ent (p' := nav [0] g23p2) (by kernel_rfl) ?_
    refine ok_run 5 (p' := g23p4) (env' := [(9, .bool (decide (y3_0 < 9))), (0, .str a0), (7, .agg ((x0_0).map v29)), (8, .int .i64 y3_0)]) (H' := (mkH [])) (by kernel_rfl) ?_
    refine ok_split 9 (b := decide (y3_0 < 9)) (by kernel_rfl) (fun hb => ?_) (fun hb => ?_)
    · refine ok_run 7 (p' := (atN 1 (ctl1 g23p5))) (env' := [(10, .int .i64 y3_0), (9, .bool true), (9, .bool (decide (y3_0 < 9))), (0, .str a0), (7, .agg ((x0_0).map v29)), (8, .int .i64 y3_0)]) (H' := (mkH [])) (by kernel_rfl) ?_
      refine ok_chk (fun (x1_1 : (List (List Nat))) => (.vec (x1_1).length 1 ((x1_1).flatMap e9), (mkH []))) (atN 2 (ctl1 g23p5)) (fun x1_1 => [(11, .vec (x1_1).length 1 ((x1_1).flatMap e9)), (10, .int .i64 y3_0), (9, .bool true), (9, .bool (decide (y3_0 < 9))), (0, .str a0), (7, .agg ((x0_0).map v29)), (8, .int .i64 y3_0)]) (aidxH v29 x0_0 (by kernel_rfl)) (fun _ => by kernel_rfl) (fun x1_1 hx1_1 => ?_)
      refine ok_run 11 (p' := g23p9) (env' := [(14, .int .i64 0), (13, .int .i64 (x1_1.length : Int)), (12, .vec (x1_1).length 1 ((x1_1).flatMap e9)), (4, .vec (x1_1).length 1 ((x1_1).flatMap e9)), (3, .int .i64 y3_0), (11, .vec (x1_1).length 1 ((x1_1).flatMap e9)), (10, .int .i64 y3_0), (9, .bool true), (9, .bool (decide (y3_0 < 9))), (0, .str a0), (7, .agg ((x0_0).map v29)), (8, .int .i64 y3_0)]) (H' := (mkH [])) (by kernel_rfl) ?_
      refine ok_keep [0, 3, 7, 8, 12, 13, 14] (env' := [(0, .str a0), (3, .int .i64 y3_0), (7, .agg ((x0_0).map v29)), (8, .int .i64 y3_0), (12, .vec (x1_1).length 1 ((x1_1).flatMap e9)), (13, .int .i64 (x1_1.length : Int)), (14, .int .i64 0)]) (by kernel_rfl) ?_
      exact (g23_l4_ok k (g23_l3 k a0 x0_0 n) a0 x0_0 y3_0 x1_1 ih k) 0 y3_0 y3_0
    · refine ok_run 7 (p' := .fin) (env' := [(2, .int .i64 0), (9, .bool false), (9, .bool (decide (y3_0 < 9))), (0, .str a0), (7, .agg ((x0_0).map v29)), (8, .int .i64 y3_0)]) (H' := (mkH [])) (by kernel_rfl) ?_
      exact ok_ret (r := (0 : Int)) (xs := [.int .i64 0]) (v := .int .i64 0) (by kernel_rfl) (by kernel_rfl) (by kernel_rfl) (.pures (by kernel_rfl)) (by kernel_rfl)
noncomputable def g23 (k : Nat) (a0 : (List Nat)) : Option Int :=
  (g44 k).bind fun x0_0 => g23_l3 k a0 x0_0 k 0
theorem g23_ok (k : Nat) (a0 : (List Nat)) (r : Int) (h : g23 k a0 = some r) : PureOk Try.prog 23 [.str a0] (.int .i64 r) := by
  refine pure_of X23 (fun _ => rfl) Try.func23 (by decide +kernel) (by kernel_rfl) (t := g23 k a0) ?_ h
  unfold g23
  refine ok_env (env' := [(0, .str a0)]) (by kernel_rfl) ?_
  refine ok_run 7 (p' := (atN 0 (ctl1 g23p1))) (env' := [(2, .int .i64 0), (0, .str a0)]) (H' := (mkH [])) (by kernel_rfl) ?_
  refine ok_call (fun (x0_0 : (List (List (List Nat)))) => .agg ((x0_0).map v29)) (atN 1 (ctl1 g23p1)) (fun x0_0 => [(7, .agg ((x0_0).map v29)), (2, .int .i64 0), (0, .str a0)]) (fi := 44) (args := []) (by kernel_rfl) (by kernel_rfl) (fun _ => arr_pur (fun _ => rfl) _) (fun r h => g44_ok k  r h) (fun _ => by kernel_rfl) (fun x0_0 hx0_0 => ?_)
  refine ok_run 4 (p' := g23p2) (env' := [(8, .int .i64 0), (7, .agg ((x0_0).map v29)), (2, .int .i64 0), (0, .str a0)]) (H' := (mkH [])) (by kernel_rfl) ?_
  refine ok_keep [0, 7, 8] (env' := [(0, .str a0), (7, .agg ((x0_0).map v29)), (8, .int .i64 0)]) (by kernel_rfl) ?_
  exact (g23_l3_ok k a0 x0_0 k) 0
end Go.Proofs.Ytnikdnchoahngaa.Am
