/- Function 30, plain, and that the program computes it. Printed by gen.py. -/
import Derived.Test.YtfkefelgjbfkjaaTy
import Derived.Test.YtfkefelgjbfkjaaG28
set_option maxRecDepth 100000
set_option linter.unusedVariables false
namespace Go.Proofs.Ytfkefelgjbfkjaa.Am
open Go

/-! 30 galley/galleyref1.Note -/
noncomputable def X30 : Fx Bool := ⟨Try.prog, cx, Try.f30, fun r => .bool r, cxTi, cxOrd⟩
noncomputable def g30p0 : Pt := nav [0] (bodyAt Try.f30)
noncomputable def g30p1 : Pt := nav [0, 0, 0, 0] g30p0
noncomputable def g30p2 : Pt := nav [0, 0, 0, 0] g30p1
noncomputable def g30p3 : Pt := nav [0, 0, 0] g30p2
noncomputable def g30p4 : Pt := nav [0, 0] g30p3
noncomputable def g30p5 : Pt := nav [1, 0, 0, 0, 0] g30p4
noncomputable def g30p6 : Pt := nav [2, 0, 0] g30p4
noncomputable def g30p7 : Pt := nav [0, 0] g30p5
noncomputable def g30p9 : Pt := nav [1, 0] g30p7
noncomputable def g30p10 : Pt := nav [2, 0] g30p7
noncomputable def g30_l2 (k : Nat)  (a0 : (List Nat)) (n : Nat) : Int → Option Bool :=
  Nat.rec (motive := fun _ => Int → Option Bool) (fun _ => none) (fun _ ih => fun (y2_0 : Int) => if (decide (y2_0 < (a0.length : Int))) then ((nthS a0 y2_0).bind fun x0_2 => if (decide (x0_2 = 10)) then (some false) else (ih (fwrap .i64 (y2_0 + 1)))) else (if (!(eqL a0 [])) then ((nthS a0 0).bind fun x1_4 => if (decide (x1_4 = 37)) then ((g28 k a0).bind fun x1_9 => some (eqL x1_9 a0)) else (some false)) else (some false))) n
theorem g30_l2_s (k : Nat)  (a0 : (List Nat)) (n : Nat) (y2_0 : Int) : g30_l2 k a0 (n + 1) y2_0 = (if (decide (y2_0 < (a0.length : Int))) then ((nthS a0 y2_0).bind fun x0_2 => if (decide (x0_2 = 10)) then (some false) else ((g30_l2 k a0 n) (fwrap .i64 (y2_0 + 1)))) else (if (!(eqL a0 [])) then ((nthS a0 0).bind fun x1_4 => if (decide (x1_4 = 37)) then ((g28 k a0).bind fun x1_9 => some (eqL x1_9 a0)) else (some false)) else (some false))) := rfl
theorem g30_l2_ok (k : Nat)  (a0 : (List Nat))  : ∀ (n : Nat) (y2_0 : Int), Ok X30 g30p2 [(0, .str a0), (3, .int .i64 y2_0)] (mkH []) (g30_l2 k a0 n y2_0)
  | 0, _ => ok_none
  | n + 1, y2_0 => by
    have ih := g30_l2_ok k a0 n
    rw [g30_l2_s]
    refine ok_ent (p' := nav [0] g30p2) (by kernel_rfl) ?_
    refine ok_run 8 (p' := g30p4) (env' := [(7, .bool (decide (y2_0 < (a0.length : Int)))), (6, .int .i64 (a0.length : Int)), (5, .str a0), (4, .int .i64 y2_0), (0, .str a0), (3, .int .i64 y2_0)]) (H' := (mkH [])) (by kernel_rfl) ?_
    refine ok_split 7 (b := decide (y2_0 < (a0.length : Int))) (by kernel_rfl) (fun hb => ?_) (fun hb => ?_)
    · refine ok_run 8 (p' := (atN 2 (ctl1 g30p5))) (env' := [(11, .int .i64 y2_0), (10, .str a0), (7, .bool true), (7, .bool (decide (y2_0 < (a0.length : Int)))), (6, .int .i64 (a0.length : Int)), (5, .str a0), (4, .int .i64 y2_0), (0, .str a0), (3, .int .i64 y2_0)]) (H' := (mkH [])) (by kernel_rfl) ?_
      refine ok_chk (fun (x0_2 : Int) => (.int .u8 x0_2, (mkH []))) (atN 3 (ctl1 g30p5)) (fun x0_2 => [(12, .int .u8 x0_2), (11, .int .i64 y2_0), (10, .str a0), (7, .bool true), (7, .bool (decide (y2_0 < (a0.length : Int)))), (6, .int .i64 (a0.length : Int)), (5, .str a0), (4, .int .i64 y2_0), (0, .str a0), (3, .int .i64 y2_0)]) (idxH (by kernel_rfl)) (fun _ => by kernel_rfl) (fun x0_2 hx0_2 => ?_)
      refine ok_run 2 (p' := g30p7) (env' := [(13, .bool (decide (x0_2 = 10))), (12, .int .u8 x0_2), (11, .int .i64 y2_0), (10, .str a0), (7, .bool true), (7, .bool (decide (y2_0 < (a0.length : Int)))), (6, .int .i64 (a0.length : Int)), (5, .str a0), (4, .int .i64 y2_0), (0, .str a0), (3, .int .i64 y2_0)]) (H' := (mkH [])) (by kernel_rfl) ?_
      refine ok_split 13 (b := decide (x0_2 = 10)) (by kernel_rfl) (fun hb => ?_) (fun hb => ?_)
      · refine ok_run 6 (p' := .fin) (env' := [(2, .bool false), (13, .bool true), (13, .bool (decide (x0_2 = 10))), (12, .int .u8 x0_2), (11, .int .i64 y2_0), (10, .str a0), (7, .bool true), (7, .bool (decide (y2_0 < (a0.length : Int)))), (6, .int .i64 (a0.length : Int)), (5, .str a0), (4, .int .i64 y2_0), (0, .str a0), (3, .int .i64 y2_0)]) (H' := (mkH [])) (by kernel_rfl) ?_
        exact ok_ret (r := false) (xs := [.bool false]) (v := .bool false) (by kernel_rfl) (.pures (by kernel_rfl)) (by kernel_rfl)
      · refine ok_run 7 (p' := g30p2) (env' := [(3, .int .i64 (fwrap .i64 (y2_0 + 1))), (9, .int .i64 (fwrap .i64 (y2_0 + 1))), (8, .int .i64 y2_0), (13, .bool false), (13, .bool (decide (x0_2 = 10))), (12, .int .u8 x0_2), (11, .int .i64 y2_0), (10, .str a0), (7, .bool true), (7, .bool (decide (y2_0 < (a0.length : Int)))), (6, .int .i64 (a0.length : Int)), (5, .str a0), (4, .int .i64 y2_0), (0, .str a0), (3, .int .i64 y2_0)]) (H' := (mkH [])) (by kernel_rfl) ?_
        refine ok_keep [0, 3] (env' := [(0, .str a0), (3, .int .i64 (fwrap .i64 (y2_0 + 1)))]) (by kernel_rfl) ?_
        exact ih (fwrap .i64 (y2_0 + 1))
    · refine ok_run 7 (p' := (atN 3 (ctl1 g30p6))) (env' := [(16, .bool (!(eqL a0 []))), (15, .bool (!(eqL a0 []))), (14, .str a0), (7, .bool false), (7, .bool (decide (y2_0 < (a0.length : Int)))), (6, .int .i64 (a0.length : Int)), (5, .str a0), (4, .int .i64 y2_0), (0, .str a0), (3, .int .i64 y2_0)]) (H' := (mkH [])) (by kernel_rfl) ?_
      refine ok_split 16 (b := !(eqL a0 [])) (by kernel_rfl) (fun hb => ?_) (fun hb => ?_)
      · refine ok_run 1 (p' := (atN 4 (ctl1 g30p6))) (env' := [(17, .str a0), (16, .bool true), (16, .bool (!(eqL a0 []))), (15, .bool (!(eqL a0 []))), (14, .str a0), (7, .bool false), (7, .bool (decide (y2_0 < (a0.length : Int)))), (6, .int .i64 (a0.length : Int)), (5, .str a0), (4, .int .i64 y2_0), (0, .str a0), (3, .int .i64 y2_0)]) (H' := (mkH [])) (by kernel_rfl) ?_
        refine ok_chk (fun (x1_4 : Int) => (.int .u8 x1_4, (mkH []))) (atN 5 (ctl1 g30p6)) (fun x1_4 => [(18, .int .u8 x1_4), (17, .str a0), (16, .bool true), (16, .bool (!(eqL a0 []))), (15, .bool (!(eqL a0 []))), (14, .str a0), (7, .bool false), (7, .bool (decide (y2_0 < (a0.length : Int)))), (6, .int .i64 (a0.length : Int)), (5, .str a0), (4, .int .i64 y2_0), (0, .str a0), (3, .int .i64 y2_0)]) (idxH (by kernel_rfl)) (fun _ => by kernel_rfl) (fun x1_4 hx1_4 => ?_)
        refine ok_run 3 (p' := (atN 8 (ctl1 g30p6))) (env' := [(21, .bool (decide (x1_4 = 37))), (20, .bool (decide (x1_4 = 37))), (19, .bool (decide (x1_4 = 37))), (18, .int .u8 x1_4), (17, .str a0), (16, .bool true), (16, .bool (!(eqL a0 []))), (15, .bool (!(eqL a0 []))), (14, .str a0), (7, .bool false), (7, .bool (decide (y2_0 < (a0.length : Int)))), (6, .int .i64 (a0.length : Int)), (5, .str a0), (4, .int .i64 y2_0), (0, .str a0), (3, .int .i64 y2_0)]) (H' := (mkH [])) (by kernel_rfl) ?_
        refine ok_split 21 (b := decide (x1_4 = 37)) (by kernel_rfl) (fun hb => ?_) (fun hb => ?_)
        · refine ok_run 1 (p' := (atN 9 (ctl1 g30p6))) (env' := [(22, .str a0), (21, .bool true), (21, .bool (decide (x1_4 = 37))), (20, .bool (decide (x1_4 = 37))), (19, .bool (decide (x1_4 = 37))), (18, .int .u8 x1_4), (17, .str a0), (16, .bool true), (16, .bool (!(eqL a0 []))), (15, .bool (!(eqL a0 []))), (14, .str a0), (7, .bool false), (7, .bool (decide (y2_0 < (a0.length : Int)))), (6, .int .i64 (a0.length : Int)), (5, .str a0), (4, .int .i64 y2_0), (0, .str a0), (3, .int .i64 y2_0)]) (H' := (mkH [])) (by kernel_rfl) ?_
          refine ok_call (fun (x1_9 : (List Nat)) => .str x1_9) (atN 10 (ctl1 g30p6)) (fun x1_9 => [(23, .str x1_9), (22, .str a0), (21, .bool true), (21, .bool (decide (x1_4 = 37))), (20, .bool (decide (x1_4 = 37))), (19, .bool (decide (x1_4 = 37))), (18, .int .u8 x1_4), (17, .str a0), (16, .bool true), (16, .bool (!(eqL a0 []))), (15, .bool (!(eqL a0 []))), (14, .str a0), (7, .bool false), (7, .bool (decide (y2_0 < (a0.length : Int)))), (6, .int .i64 (a0.length : Int)), (5, .str a0), (4, .int .i64 y2_0), (0, .str a0), (3, .int .i64 y2_0)]) (fi := 28) (args := [.str a0]) (by kernel_rfl) (by kernel_rfl) (fun _ => by kernel_rfl) (fun r h => g28_ok k a0 r h) (fun _ => by kernel_rfl) (fun x1_9 hx1_9 => ?_)
          refine ok_run 6 (p' := .fin) (env' := [(2, .bool (eqL x1_9 a0)), (26, .bool (eqL x1_9 a0)), (25, .bool (eqL x1_9 a0)), (24, .str a0), (23, .str x1_9), (22, .str a0), (21, .bool true), (21, .bool (decide (x1_4 = 37))), (20, .bool (decide (x1_4 = 37))), (19, .bool (decide (x1_4 = 37))), (18, .int .u8 x1_4), (17, .str a0), (16, .bool true), (16, .bool (!(eqL a0 []))), (15, .bool (!(eqL a0 []))), (14, .str a0), (7, .bool false), (7, .bool (decide (y2_0 < (a0.length : Int)))), (6, .int .i64 (a0.length : Int)), (5, .str a0), (4, .int .i64 y2_0), (0, .str a0), (3, .int .i64 y2_0)]) (H' := (mkH [])) (by kernel_rfl) ?_
          exact ok_ret (r := (eqL x1_9 a0)) (xs := [.bool (eqL x1_9 a0)]) (v := .bool (eqL x1_9 a0)) (by kernel_rfl) (.pures (by kernel_rfl)) (by kernel_rfl)
        · refine ok_run 8 (p' := .fin) (env' := [(2, .bool false), (26, .bool false), (25, .tuple []), (24, .tuple []), (23, .tuple []), (22, .tuple []), (21, .bool false), (21, .bool (decide (x1_4 = 37))), (20, .bool (decide (x1_4 = 37))), (19, .bool (decide (x1_4 = 37))), (18, .int .u8 x1_4), (17, .str a0), (16, .bool true), (16, .bool (!(eqL a0 []))), (15, .bool (!(eqL a0 []))), (14, .str a0), (7, .bool false), (7, .bool (decide (y2_0 < (a0.length : Int)))), (6, .int .i64 (a0.length : Int)), (5, .str a0), (4, .int .i64 y2_0), (0, .str a0), (3, .int .i64 y2_0)]) (H' := (mkH [])) (by kernel_rfl) ?_
          exact ok_ret (r := false) (xs := [.bool false]) (v := .bool false) (by kernel_rfl) (.pures (by kernel_rfl)) (by kernel_rfl)
      · refine ok_run 13 (p' := .fin) (env' := [(2, .bool false), (26, .bool false), (25, .tuple []), (24, .tuple []), (23, .tuple []), (22, .tuple []), (21, .bool false), (20, .bool false), (19, .tuple []), (18, .tuple []), (17, .tuple []), (16, .bool false), (16, .bool (!(eqL a0 []))), (15, .bool (!(eqL a0 []))), (14, .str a0), (7, .bool false), (7, .bool (decide (y2_0 < (a0.length : Int)))), (6, .int .i64 (a0.length : Int)), (5, .str a0), (4, .int .i64 y2_0), (0, .str a0), (3, .int .i64 y2_0)]) (H' := (mkH [])) (by kernel_rfl) ?_
        exact ok_ret (r := false) (xs := [.bool false]) (v := .bool false) (by kernel_rfl) (.pures (by kernel_rfl)) (by kernel_rfl)
noncomputable def g30 (k : Nat) (a0 : (List Nat)) : Option Bool :=
  g30_l2 k a0 k 0
theorem g30_ok (k : Nat) (a0 : (List Nat)) (r : Bool) (h : g30 k a0 = some r) : PureOk Try.prog 30 [.str a0] (.bool r) := by
  refine pure_of X30 Try.func30 (by decide +kernel) (by kernel_rfl) (t := g30 k a0) ?_ h
  unfold g30
  refine ok_env (env' := [(0, .str a0)]) (by kernel_rfl) ?_
  refine ok_run 11 (p' := g30p2) (env' := [(3, .int .i64 0), (2, .bool false), (0, .str a0)]) (H' := (mkH [])) (by kernel_rfl) ?_
  refine ok_keep [0, 3] (env' := [(0, .str a0), (3, .int .i64 0)]) (by kernel_rfl) ?_
  exact (g30_l2_ok k a0 k) 0
end Go.Proofs.Ytfkefelgjbfkjaa.Am
