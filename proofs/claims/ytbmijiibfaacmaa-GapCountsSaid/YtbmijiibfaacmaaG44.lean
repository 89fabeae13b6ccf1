/- Function 44, plain, and that the program computes it. Printed by gen.py. -/
import Derived.Test.YtbmijiibfaacmaaTy
import Derived.Test.YtbmijiibfaacmaaG56
set_option maxRecDepth 100000
set_option linter.unusedVariables false
namespace Go.Proofs.Ytbmijiibfaacmaa.Am
open Go

/-! 44 galley/galleyref1.Valid -/
noncomputable def X44 : Fx Bool := ⟨Try.prog, cx, Try.f44, fun r => .bool r, 0, fun _ => H0, cxTi, cxOrd⟩
noncomputable def g44p0 : Pt := nav [0] (bodyAt Try.f44)
noncomputable def g44p1 : Pt := nav [0, 0, 0, 0] g44p0
noncomputable def g44p2 : Pt := nav [0, 0, 0, 0] g44p1
noncomputable def g44p3 : Pt := nav [0, 0, 0] g44p2
noncomputable def g44p4 : Pt := nav [0, 0] g44p3
noncomputable def g44p5 : Pt := nav [1, 0, 0, 0] g44p4
noncomputable def g44p6 : Pt := nav [2, 0, 0] g44p4
noncomputable def g44p7 : Pt := nav [0, 0, 0, 0] g44p5
noncomputable def g44p9 : Pt := nav [0, 0] g44p7
noncomputable def g44p10 : Pt := nav [1, 0] g44p9
noncomputable def g44p11 : Pt := nav [2, 0] g44p9
noncomputable def g44_l1 (k : Nat)  (a0 : (List Nat)) (n : Nat) : Int → Option Bool :=
  Nat.rec (motive := fun _ => Int → Option Bool) (fun _ => none) (fun _ ih => fun (y1_0 : Int) => if (decide (y1_0 < (a0.length : Int))) then ((g56 k a0 y1_0).bind fun x0_2 => if (decide (x0_2.1 < 0)) then (some false) else (ih (fwrap .i64 (y1_0 + x0_2.2)))) else (some true)) n
theorem g44_l1_s (k : Nat)  (a0 : (List Nat)) (n : Nat) (y1_0 : Int) : g44_l1 k a0 (n + 1) y1_0 = (if (decide (y1_0 < (a0.length : Int))) then ((g56 k a0 y1_0).bind fun x0_2 => if (decide (x0_2.1 < 0)) then (some false) else ((g44_l1 k a0 n) (fwrap .i64 (y1_0 + x0_2.2)))) else (some true)) := rfl
theorem g44_l1_ok (k : Nat)  (a0 : (List Nat))  : ∀ (n : Nat) (y1_0 : Int), Ok X44 g44p2 [(0, .str a0), (3, .int .i64 y1_0)] (mkH []) (g44_l1 k a0 n y1_0)
  | 0, _ => ok_none
  | n + 1, y1_0 => by
    have ih := g44_l1_ok k a0 n
    rw [g44_l1_s]
    refine ok_ent (p' := nav [0] g44p2) (by kernel_rfl) ?_
    refine ok_run 8 (p' := g44p4) (env' := [(9, .bool (decide (y1_0 < (a0.length : Int)))), (8, .int .i64 (a0.length : Int)), (7, .str a0), (6, .int .i64 y1_0), (0, .str a0), (3, .int .i64 y1_0)]) (H' := (mkH [])) (by kernel_rfl) ?_
    refine ok_split 9 (b := decide (y1_0 < (a0.length : Int))) (by kernel_rfl) (fun hb => ?_) (fun hb => ?_)
    · refine ok_run 7 (p' := (atN 2 (ctl1 g44p5))) (env' := [(12, .int .i64 y1_0), (11, .str a0), (9, .bool true), (9, .bool (decide (y1_0 < (a0.length : Int)))), (8, .int .i64 (a0.length : Int)), (7, .str a0), (6, .int .i64 y1_0), (0, .str a0), (3, .int .i64 y1_0)]) (H' := (mkH [])) (by kernel_rfl) ?_
      refine ok_call (fun (x0_2 : (Int × Int)) => .tuple [.int .i64 x0_2.1, .int .i64 x0_2.2]) (atN 3 (ctl1 g44p5)) (fun x0_2 => [(13, .tuple [.int .i64 x0_2.1, .int .i64 x0_2.2]), (12, .int .i64 y1_0), (11, .str a0), (9, .bool true), (9, .bool (decide (y1_0 < (a0.length : Int)))), (8, .int .i64 (a0.length : Int)), (7, .str a0), (6, .int .i64 y1_0), (0, .str a0), (3, .int .i64 y1_0)]) (fi := 56) (args := [.str a0, .int .i64 y1_0]) (by kernel_rfl) (by kernel_rfl) (fun _ => by kernel_rfl) (fun r h => g56_ok k a0 y1_0 r h) (fun _ => by kernel_rfl) (fun x0_2 hx0_2 => ?_)
      refine ok_run 12 (p' := g44p9) (env' := [(17, .bool (decide (x0_2.1 < 0))), (16, .int .i64 x0_2.1), (5, .int .i64 x0_2.2), (4, .int .i64 x0_2.1), (15, .int .i64 x0_2.2), (14, .int .i64 x0_2.1), (10, .tuple [.int .i64 x0_2.1, .int .i64 x0_2.2]), (13, .tuple [.int .i64 x0_2.1, .int .i64 x0_2.2]), (12, .int .i64 y1_0), (11, .str a0), (9, .bool true), (9, .bool (decide (y1_0 < (a0.length : Int)))), (8, .int .i64 (a0.length : Int)), (7, .str a0), (6, .int .i64 y1_0), (0, .str a0), (3, .int .i64 y1_0)]) (H' := (mkH [])) (by kernel_rfl) ?_
      refine ok_split 17 (b := decide (x0_2.1 < 0)) (by kernel_rfl) (fun hb => ?_) (fun hb => ?_)
      · refine ok_run 6 (p' := .fin) (env' := [(2, .bool false), (17, .bool true), (17, .bool (decide (x0_2.1 < 0))), (16, .int .i64 x0_2.1), (5, .int .i64 x0_2.2), (4, .int .i64 x0_2.1), (15, .int .i64 x0_2.2), (14, .int .i64 x0_2.1), (10, .tuple [.int .i64 x0_2.1, .int .i64 x0_2.2]), (13, .tuple [.int .i64 x0_2.1, .int .i64 x0_2.2]), (12, .int .i64 y1_0), (11, .str a0), (9, .bool true), (9, .bool (decide (y1_0 < (a0.length : Int)))), (8, .int .i64 (a0.length : Int)), (7, .str a0), (6, .int .i64 y1_0), (0, .str a0), (3, .int .i64 y1_0)]) (H' := (mkH [])) (by kernel_rfl) ?_
        exact ok_ret (r := false) (xs := [.bool false]) (v := .bool false) (by kernel_rfl) (by kernel_rfl) (by kernel_rfl) (.pures (by kernel_rfl)) (by kernel_rfl)
      · refine ok_run 8 (p' := g44p2) (env' := [(3, .int .i64 (fwrap .i64 (y1_0 + x0_2.2))), (20, .int .i64 (fwrap .i64 (y1_0 + x0_2.2))), (19, .int .i64 x0_2.2), (18, .int .i64 y1_0), (17, .bool false), (17, .bool (decide (x0_2.1 < 0))), (16, .int .i64 x0_2.1), (5, .int .i64 x0_2.2), (4, .int .i64 x0_2.1), (15, .int .i64 x0_2.2), (14, .int .i64 x0_2.1), (10, .tuple [.int .i64 x0_2.1, .int .i64 x0_2.2]), (13, .tuple [.int .i64 x0_2.1, .int .i64 x0_2.2]), (12, .int .i64 y1_0), (11, .str a0), (9, .bool true), (9, .bool (decide (y1_0 < (a0.length : Int)))), (8, .int .i64 (a0.length : Int)), (7, .str a0), (6, .int .i64 y1_0), (0, .str a0), (3, .int .i64 y1_0)]) (H' := (mkH [])) (by kernel_rfl) ?_
        refine ok_keep [0, 3] (env' := [(0, .str a0), (3, .int .i64 (fwrap .i64 (y1_0 + x0_2.2)))]) (by kernel_rfl) ?_
        exact ih (fwrap .i64 (y1_0 + x0_2.2))
    · refine ok_run 7 (p' := .fin) (env' := [(2, .bool true), (9, .bool false), (9, .bool (decide (y1_0 < (a0.length : Int)))), (8, .int .i64 (a0.length : Int)), (7, .str a0), (6, .int .i64 y1_0), (0, .str a0), (3, .int .i64 y1_0)]) (H' := (mkH [])) (by kernel_rfl) ?_
      exact ok_ret (r := true) (xs := [.bool true]) (v := .bool true) (by kernel_rfl) (by kernel_rfl) (by kernel_rfl) (.pures (by kernel_rfl)) (by kernel_rfl)
noncomputable def g44 (k : Nat) (a0 : (List Nat)) : Option Bool :=
  g44_l1 k a0 k 0
theorem g44_ok (k : Nat) (a0 : (List Nat)) (r : Bool) (h : g44 k a0 = some r) : PureOk Try.prog 44 [.str a0] (.bool r) := by
  refine pure_of X44 (fun _ => rfl) Try.func44 (by decide +kernel) (by kernel_rfl) (t := g44 k a0) ?_ h
  unfold g44
  refine ok_env (env' := [(0, .str a0)]) (by kernel_rfl) ?_
  refine ok_run 11 (p' := g44p2) (env' := [(3, .int .i64 0), (2, .bool false), (0, .str a0)]) (H' := (mkH [])) (by kernel_rfl) ?_
  refine ok_keep [0, 3] (env' := [(0, .str a0), (3, .int .i64 0)]) (by kernel_rfl) ?_
  exact (g44_l1_ok k a0 k) 0
end Go.Proofs.Ytbmijiibfaacmaa.Am
