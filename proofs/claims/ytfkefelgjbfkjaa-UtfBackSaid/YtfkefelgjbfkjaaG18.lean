/- Function 18, plain, and that the program computes it. Printed by gen.py. -/
import Derived.Test.YtfkefelgjbfkjaaTy
import Derived.Test.YtfkefelgjbfkjaaG14
set_option maxRecDepth 100000
set_option linter.unusedVariables false
namespace Go.Proofs.Ytfkefelgjbfkjaa.Am
open Go

/-! 18 galley/galleyref1.Count -/
noncomputable def X18 : Fx Int := ⟨Try.prog, cx, Try.f18, fun r => .int .i64 r, 0, fun _ => H0, cxTi, cxOrd⟩
noncomputable def g18p0 : Pt := nav [0] (bodyAt Try.f18)
noncomputable def g18p1 : Pt := nav [0, 0, 0] g18p0
noncomputable def g18p2 : Pt := nav [0, 0, 0, 0] g18p1
noncomputable def g18p3 : Pt := nav [0, 0, 0, 0] g18p2
noncomputable def g18p4 : Pt := nav [0, 0, 0] g18p3
noncomputable def g18p5 : Pt := nav [0, 0] g18p4
noncomputable def g18p6 : Pt := nav [1, 0, 0, 0, 0] g18p5
noncomputable def g18p7 : Pt := nav [2, 0, 0] g18p5
noncomputable def g18p8 : Pt := nav [0, 0] g18p6
noncomputable def g18p10 : Pt := nav [0, 0] g18p8
noncomputable def g18_l1 (k : Nat)  (a0 : (List Nat)) (n : Nat) : Int → Int → Option Int :=
  Nat.rec (motive := fun _ => Int → Int → Option Int) (fun _ _ => none) (fun _ ih => fun (y1_0 : Int) (y1_1 : Int) => if (decide (y1_1 < (a0.length : Int))) then ((g14 k a0 y1_1).bind fun x0_2 => ih (fwrap .i64 (y1_0 + 1)) (fwrap .i64 (y1_1 + x0_2.2))) else (some y1_0)) n
theorem g18_l1_s (k : Nat)  (a0 : (List Nat)) (n : Nat) (y1_0 : Int) (y1_1 : Int) : g18_l1 k a0 (n + 1) y1_0 y1_1 = (if (decide (y1_1 < (a0.length : Int))) then ((g14 k a0 y1_1).bind fun x0_2 => (g18_l1 k a0 n) (fwrap .i64 (y1_0 + 1)) (fwrap .i64 (y1_1 + x0_2.2))) else (some y1_0)) := rfl
theorem g18_l1_ok (k : Nat)  (a0 : (List Nat))  : ∀ (n : Nat) (y1_0 : Int) (y1_1 : Int), Ok X18 g18p3 [(0, .str a0), (3, .int .i64 y1_0), (4, .int .i64 y1_1)] (mkH []) (g18_l1 k a0 n y1_0 y1_1)
  | 0, _, _ => ok_none
  | n + 1, y1_0, y1_1 => by
    have ih := g18_l1_ok k a0 n
    rw [g18_l1_s]
    refine ok_ent (p' := nav [0] g18p3) (by kernel_rfl) ?_
    let E1 : Env := [(10, .bool (decide (y1_1 < (a0.length : Int)))), (9, .int .i64 (a0.length : Int)), (8, .str a0), (7, .int .i64 y1_1), (0, .str a0), (3, .int .i64 y1_0), (4, .int .i64 y1_1)]
    refine ok_run 8 (p' := g18p5) (env' := E1) (H' := (mkH [])) (by kernel_rfl) ?_
    refine ok_split 10 (b := decide (y1_1 < (a0.length : Int))) (by kernel_rfl) (fun hb => ?_) (fun hb => ?_)
    · refine ok_run 8 (p' := (atN 2 (ctl1 g18p6))) (env' := ((15, .int .i64 y1_1) :: (14, .str a0) :: (10, .bool true) :: E1)) (H' := (mkH [])) (by kernel_rfl) ?_
      refine ok_call (fun (x0_2 : (Int × Int)) => .tuple [.int .i64 x0_2.1, .int .i64 x0_2.2]) (atN 3 (ctl1 g18p6)) (fun x0_2 => ((16, .tuple [.int .i64 x0_2.1, .int .i64 x0_2.2]) :: (15, .int .i64 y1_1) :: (14, .str a0) :: (10, .bool true) :: E1)) (fi := 14) (args := [.str a0, .int .i64 y1_1]) (by kernel_rfl) (by kernel_rfl) (fun _ => by kernel_rfl) (fun r h => g14_ok k a0 y1_1 r h) (fun _ => by kernel_rfl) (fun x0_2 hx0_2 => ?_)
      let E2 : Env := ((6, .int .i64 x0_2.2) :: (5, .int .i64 x0_2.1) :: (18, .int .i64 x0_2.2) :: (17, .int .i64 x0_2.1) :: (13, .tuple [.int .i64 x0_2.1, .int .i64 x0_2.2]) :: (16, .tuple [.int .i64 x0_2.1, .int .i64 x0_2.2]) :: (15, .int .i64 y1_1) :: (14, .str a0) :: (10, .bool true) :: E1)
      refine ok_run 6 (p' := g18p8) (env' := E2) (H' := (mkH [])) (by kernel_rfl) ?_
      refine ok_keep [0, 3, 4, 6] (env' := [(0, .str a0), (3, .int .i64 y1_0), (4, .int .i64 y1_1), (6, .int .i64 x0_2.2)]) (by kernel_rfl) ?_
      let E3 : Env := [(3, .int .i64 (fwrap .i64 (y1_0 + 1))), (12, .int .i64 (fwrap .i64 (y1_0 + 1))), (11, .int .i64 y1_0), (4, .int .i64 (fwrap .i64 (y1_1 + x0_2.2))), (21, .int .i64 (fwrap .i64 (y1_1 + x0_2.2))), (20, .int .i64 x0_2.2), (19, .int .i64 y1_1), (0, .str a0), (3, .int .i64 y1_0), (4, .int .i64 y1_1), (6, .int .i64 x0_2.2)]
      refine ok_run 11 (p' := g18p3) (env' := E3) (H' := (mkH [])) (by kernel_rfl) ?_
      refine ok_keep [0, 3, 4] (env' := [(0, .str a0), (3, .int .i64 (fwrap .i64 (y1_0 + 1))), (4, .int .i64 (fwrap .i64 (y1_1 + x0_2.2)))]) (by kernel_rfl) ?_
      exact ih (fwrap .i64 (y1_0 + 1)) (fwrap .i64 (y1_1 + x0_2.2))
    · refine ok_run 8 (p' := .fin) (env' := ((2, .int .i64 y1_0) :: (22, .int .i64 y1_0) :: (10, .bool false) :: E1)) (H' := (mkH [])) (by kernel_rfl) ?_
      exact ok_ret (r := y1_0) (xs := [.int .i64 y1_0]) (v := .int .i64 y1_0) (by kernel_rfl) (by kernel_rfl) (by kernel_rfl) (.pures (by kernel_rfl)) (by kernel_rfl)
noncomputable def g18 (k : Nat) (a0 : (List Nat)) : Option Int :=
  g18_l1 k a0 k 0 0
theorem g18_ok (k : Nat) (a0 : (List Nat)) (r : Int) (h : g18 k a0 = some r) : PureOk Try.prog 18 [.str a0] (.int .i64 r) := by
  refine pure_of X18 (fun _ => rfl) Try.func18 (by decide +kernel) (by kernel_rfl) (t := g18 k a0) ?_ h
  unfold g18
  refine ok_env (env' := [(0, .str a0)]) (by kernel_rfl) ?_
  refine ok_run 15 (p' := g18p3) (env' := [(4, .int .i64 0), (3, .int .i64 0), (2, .int .i64 0), (0, .str a0)]) (H' := (mkH [])) (by kernel_rfl) ?_
  refine ok_keep [0, 3, 4] (env' := [(0, .str a0), (3, .int .i64 0), (4, .int .i64 0)]) (by kernel_rfl) ?_
  exact (g18_l1_ok k a0 k) 0 0
end Go.Proofs.Ytfkefelgjbfkjaa.Am
