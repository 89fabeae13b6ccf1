/- Function 42, plain, and that the program computes it. Printed by gen.py. -/
import Derived.Test.YtbmijiibfaacmaaTy
set_option maxRecDepth 100000
set_option linter.unusedVariables false
namespace Go.Proofs.Ytbmijiibfaacmaa.Am
open Go

/-! 42 galley/parens.set -/
noncomputable def X42 : Fx Int := ⟨Try.prog, cx, Try.f42, fun r => .int .u64 r, cxTi, cxOrd⟩
noncomputable def g42p0 : Pt := nav [0] (bodyAt Try.f42)
noncomputable def g42p1 : Pt := nav [0, 0, 0] g42p0
noncomputable def g42p2 : Pt := nav [0, 0, 0, 0] g42p1
noncomputable def g42p3 : Pt := nav [0, 0, 0, 0] g42p2
noncomputable def g42p4 : Pt := nav [0, 0] g42p3
noncomputable def g42p5 : Pt := nav [0, 0, 0] g42p4
noncomputable def g42p6 : Pt := nav [1, 0, 0, 0, 0] g42p5
noncomputable def g42p7 : Pt := nav [2, 0, 0] g42p5
noncomputable def g42p8 : Pt := nav [0, 0] g42p6
noncomputable def g42p10 : Pt := nav [0, 0] g42p8
noncomputable def g42_l2 (k : Nat)  (a0 : (List Int)) (n : Nat) : Int → Int → Option Int :=
  Nat.rec (motive := fun _ => Int → Int → Option Int) (fun _ _ => none) (fun _ ih => fun (y2_0 : Int) (y2_1 : Int) => if (decide (y2_0 < (a0.length : Int))) then ((nthL a0 y2_0).bind fun x0_0 => (shlS .u64 1 (fwrap .u64 x0_0)).bind fun x1_3 => ih (fwrap .i64 (y2_0 + 1)) (orI .u64 y2_1 x1_3)) else (some y2_1)) n
theorem g42_l2_s (k : Nat)  (a0 : (List Int)) (n : Nat) (y2_0 : Int) (y2_1 : Int) : g42_l2 k a0 (n + 1) y2_0 y2_1 = (if (decide (y2_0 < (a0.length : Int))) then ((nthL a0 y2_0).bind fun x0_0 => (shlS .u64 1 (fwrap .u64 x0_0)).bind fun x1_3 => (g42_l2 k a0 n) (fwrap .i64 (y2_0 + 1)) (orI .u64 y2_1 x1_3)) else (some y2_1)) := rfl
theorem g42_l2_ok (k : Nat)  (a0 : (List Int))  : ∀ (n : Nat) (y2_0 : Int) (y2_1 : Int), Ok X42 g42p3 [(3, .int .u64 y2_1), (6, .vec (a0).length 1 ((a0).flatMap e3)), (7, .int .i64 (a0.length : Int)), (8, .int .i64 y2_0)] (mkH []) (g42_l2 k a0 n y2_0 y2_1)
  | 0, _, _ => ok_none
  | n + 1, y2_0, y2_1 => by
    have ih := g42_l2_ok k a0 n
    rw [g42_l2_s]
    refine ok_ent (p' := nav [0] g42p3) (by kernel_rfl) ?_
    refine ok_run 5 (p' := g42p5) (env' := [(9, .bool (decide (y2_0 < (a0.length : Int)))), (3, .int .u64 y2_1), (6, .vec (a0).length 1 ((a0).flatMap e3)), (7, .int .i64 (a0.length : Int)), (8, .int .i64 y2_0)]) (H' := (mkH [])) (by kernel_rfl) ?_
    refine ok_split 9 (b := decide (y2_0 < (a0.length : Int))) (by kernel_rfl) (fun hb => ?_) (fun hb => ?_)
    · refine ok_run 6 (p' := (atN 0 (ctl1 g42p6))) (env' := [(9, .bool true), (9, .bool (decide (y2_0 < (a0.length : Int)))), (3, .int .u64 y2_1), (6, .vec (a0).length 1 ((a0).flatMap e3)), (7, .int .i64 (a0.length : Int)), (8, .int .i64 y2_0)]) (H' := (mkH [])) (by kernel_rfl) ?_
      refine ok_chk (fun (x0_0 : Int) => (.vptr [.int .i64 x0_0], (mkH []))) (atN 1 (ctl1 g42p6)) (fun x0_0 => [(10, .vptr [.int .i64 x0_0]), (9, .bool true), (9, .bool (decide (y2_0 < (a0.length : Int)))), (3, .int .u64 y2_1), (6, .vec (a0).length 1 ((a0).flatMap e3)), (7, .int .i64 (a0.length : Int)), (8, .int .i64 y2_0)]) (vidxH (sz := 1) e3_len (by kernel_rfl)) (fun _ => by kernel_rfl) (fun x0_0 hx0_0 => ?_)
      refine ok_run 7 (p' := (atN 3 (ctl1 g42p8))) (env' := [(14, .int .u64 (fwrap .u64 x0_0)), (13, .int .i64 x0_0), (12, .int .u64 y2_1), (5, .int .i64 x0_0), (11, .int .i64 x0_0), (10, .vptr [.int .i64 x0_0]), (9, .bool true), (9, .bool (decide (y2_0 < (a0.length : Int)))), (3, .int .u64 y2_1), (6, .vec (a0).length 1 ((a0).flatMap e3)), (7, .int .i64 (a0.length : Int)), (8, .int .i64 y2_0)]) (H' := (mkH [])) (by kernel_rfl) ?_
      refine ok_chk (fun (x1_3 : Int) => (.int .u64 x1_3, (mkH []))) (atN 4 (ctl1 g42p8)) (fun x1_3 => [(15, .int .u64 x1_3), (14, .int .u64 (fwrap .u64 x0_0)), (13, .int .i64 x0_0), (12, .int .u64 y2_1), (5, .int .i64 x0_0), (11, .int .i64 x0_0), (10, .vptr [.int .i64 x0_0]), (9, .bool true), (9, .bool (decide (y2_0 < (a0.length : Int)))), (3, .int .u64 y2_1), (6, .vec (a0).length 1 ((a0).flatMap e3)), (7, .int .i64 (a0.length : Int)), (8, .int .i64 y2_0)]) (shlH (by kernel_rfl)) (fun _ => by kernel_rfl) (fun x1_3 hx1_3 => ?_)
      refine ok_run 7 (p' := g42p3) (env' := [(8, .int .i64 (fwrap .i64 (y2_0 + 1))), (17, .int .i64 (fwrap .i64 (y2_0 + 1))), (3, .int .u64 (orI .u64 y2_1 x1_3)), (16, .int .u64 (orI .u64 y2_1 x1_3)), (15, .int .u64 x1_3), (14, .int .u64 (fwrap .u64 x0_0)), (13, .int .i64 x0_0), (12, .int .u64 y2_1), (5, .int .i64 x0_0), (11, .int .i64 x0_0), (10, .vptr [.int .i64 x0_0]), (9, .bool true), (9, .bool (decide (y2_0 < (a0.length : Int)))), (3, .int .u64 y2_1), (6, .vec (a0).length 1 ((a0).flatMap e3)), (7, .int .i64 (a0.length : Int)), (8, .int .i64 y2_0)]) (H' := (mkH [])) (by kernel_rfl) ?_
      refine ok_keep [3, 6, 7, 8] (env' := [(3, .int .u64 (orI .u64 y2_1 x1_3)), (6, .vec (a0).length 1 ((a0).flatMap e3)), (7, .int .i64 (a0.length : Int)), (8, .int .i64 (fwrap .i64 (y2_0 + 1)))]) (by kernel_rfl) ?_
      exact ih (fwrap .i64 (y2_0 + 1)) (orI .u64 y2_1 x1_3)
    · refine ok_run 8 (p' := .fin) (env' := [(2, .int .u64 y2_1), (18, .int .u64 y2_1), (9, .bool false), (9, .bool (decide (y2_0 < (a0.length : Int)))), (3, .int .u64 y2_1), (6, .vec (a0).length 1 ((a0).flatMap e3)), (7, .int .i64 (a0.length : Int)), (8, .int .i64 y2_0)]) (H' := (mkH [])) (by kernel_rfl) ?_
      exact ok_ret (r := y2_1) (xs := [.int .u64 y2_1]) (v := .int .u64 y2_1) (by kernel_rfl) (.pures (by kernel_rfl)) (by kernel_rfl)
noncomputable def g42 (k : Nat) (a0 : (List Int)) : Option Int :=
  g42_l2 k a0 k 0 0
theorem g42_ok (k : Nat) (a0 : (List Int)) (r : Int) (h : g42 k a0 = some r) : PureOk Try.prog 42 [.vec (a0).length 1 ((a0).flatMap e3)] (.int .u64 r) := by
  refine pure_of X42 Try.func42 (by decide +kernel) (by kernel_rfl) (t := g42 k a0) ?_ h
  unfold g42
  refine ok_env (env' := [(0, .vec (a0).length 1 ((a0).flatMap e3))]) (by kernel_rfl) ?_
  refine ok_run 17 (p' := g42p3) (env' := [(8, .int .i64 0), (7, .int .i64 (a0.length : Int)), (6, .vec (a0).length 1 ((a0).flatMap e3)), (3, .int .u64 0), (2, .int .u64 0), (0, .vec (a0).length 1 ((a0).flatMap e3))]) (H' := (mkH [])) (by kernel_rfl) ?_
  refine ok_keep [3, 6, 7, 8] (env' := [(3, .int .u64 0), (6, .vec (a0).length 1 ((a0).flatMap e3)), (7, .int .i64 (a0.length : Int)), (8, .int .i64 0)]) (by kernel_rfl) ?_
  exact (g42_l2_ok k a0 k) 0 0
end Go.Proofs.Ytbmijiibfaacmaa.Am
