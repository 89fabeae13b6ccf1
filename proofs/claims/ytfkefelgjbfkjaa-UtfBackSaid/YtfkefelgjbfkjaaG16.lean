/- Function 16, plain, and that the program computes it. Printed by gen.py. -/
import Derived.Test.YtfkefelgjbfkjaaTy
import Derived.Test.YtfkefelgjbfkjaaG14
set_option maxRecDepth 100000
set_option linter.unusedVariables false
namespace Go.Proofs.Ytfkefelgjbfkjaa.Am
open Go

/-! 16 galley/galleyref1.Valid -/
noncomputable def X16 : Fx Bool := ⟨Try.prog, cx, Try.f16, fun r => .bool r, 0, fun _ => H0, cxTi, cxOrd⟩
noncomputable def g16p0 : Pt := nav [0] (bodyAt Try.f16)
noncomputable def g16p1 : Pt := nav [0, 0, 0, 0] g16p0
noncomputable def g16p2 : Pt := nav [0, 0, 0, 0] g16p1
noncomputable def g16p3 : Pt := nav [0, 0, 0] g16p2
noncomputable def g16p4 : Pt := nav [0, 0] g16p3
noncomputable def g16p5 : Pt := nav [1, 0, 0, 0] g16p4
noncomputable def g16p6 : Pt := nav [2, 0, 0] g16p4
noncomputable def g16p7 : Pt := nav [0, 0, 0, 0] g16p5
noncomputable def g16p9 : Pt := nav [0, 0] g16p7
noncomputable def g16p10 : Pt := nav [1, 0] g16p9
noncomputable def g16p11 : Pt := nav [2, 0] g16p9
noncomputable def g16_l1 (k : Nat)  (a0 : (List Nat)) (n : Nat) : Int → Option Bool :=
  Nat.rec (motive := fun _ => Int → Option Bool) (fun _ => none) (fun _ ih => fun (y1_0 : Int) => if (decide (y1_0 < (a0.length : Int))) then ((g14 k a0 y1_0).bind fun x0_2 => if (decide (x0_2.1 < 0)) then (some false) else (ih (fwrap .i64 (y1_0 + x0_2.2)))) else (some true)) n
theorem g16_l1_s (k : Nat)  (a0 : (List Nat)) (n : Nat) (y1_0 : Int) : g16_l1 k a0 (n + 1) y1_0 = (if (decide (y1_0 < (a0.length : Int))) then ((g14 k a0 y1_0).bind fun x0_2 => if (decide (x0_2.1 < 0)) then (some false) else ((g16_l1 k a0 n) (fwrap .i64 (y1_0 + x0_2.2)))) else (some true)) := rfl
theorem g16_l1_ok (k : Nat)  (a0 : (List Nat))  : ∀ (n : Nat) (y1_0 : Int), Ok X16 g16p2 [(0, .str a0), (3, .int .i64 y1_0)] (mkH []) (g16_l1 k a0 n y1_0)
  | 0, _ => ok_none
  | n + 1, y1_0 => by
    have ih := g16_l1_ok k a0 n
    rw [g16_l1_s]
    refine ok_ent (p' := nav [0] g16p2) (by kernel_rfl) ?_
    let E1 : Env := [(9, .bool (decide (y1_0 < (a0.length : Int)))), (8, .int .i64 (a0.length : Int)), (7, .str a0), (6, .int .i64 y1_0), (0, .str a0), (3, .int .i64 y1_0)]
    refine ok_run 8 (p' := g16p4) (env' := E1) (H' := (mkH [])) (by kernel_rfl) ?_
    refine ok_split 9 (b := decide (y1_0 < (a0.length : Int))) (by kernel_rfl) (fun hb => ?_) (fun hb => ?_)
    · refine ok_run 7 (p' := (atN 2 (ctl1 g16p5))) (env' := ((12, .int .i64 y1_0) :: (11, .str a0) :: (9, .bool true) :: E1)) (H' := (mkH [])) (by kernel_rfl) ?_
      refine ok_call (fun (x0_2 : (Int × Int)) => .tuple [.int .i64 x0_2.1, .int .i64 x0_2.2]) (atN 3 (ctl1 g16p5)) (fun x0_2 => ((13, .tuple [.int .i64 x0_2.1, .int .i64 x0_2.2]) :: (12, .int .i64 y1_0) :: (11, .str a0) :: (9, .bool true) :: E1)) (fi := 14) (args := [.str a0, .int .i64 y1_0]) (by kernel_rfl) (by kernel_rfl) (fun _ => by kernel_rfl) (fun r h => g14_ok k a0 y1_0 r h) (fun _ => by kernel_rfl) (fun x0_2 hx0_2 => ?_)
      let E2 : Env := ((5, .int .i64 x0_2.2) :: (4, .int .i64 x0_2.1) :: (15, .int .i64 x0_2.2) :: (14, .int .i64 x0_2.1) :: (10, .tuple [.int .i64 x0_2.1, .int .i64 x0_2.2]) :: (13, .tuple [.int .i64 x0_2.1, .int .i64 x0_2.2]) :: (12, .int .i64 y1_0) :: (11, .str a0) :: (9, .bool true) :: E1)
      refine ok_run 8 (p' := g16p7) (env' := E2) (H' := (mkH [])) (by kernel_rfl) ?_
      refine ok_keep [0, 3, 4, 5] (env' := [(0, .str a0), (3, .int .i64 y1_0), (4, .int .i64 x0_2.1), (5, .int .i64 x0_2.2)]) (by kernel_rfl) ?_
      let E3 : Env := [(17, .bool (decide (x0_2.1 < 0))), (16, .int .i64 x0_2.1), (0, .str a0), (3, .int .i64 y1_0), (4, .int .i64 x0_2.1), (5, .int .i64 x0_2.2)]
      refine ok_run 4 (p' := g16p9) (env' := E3) (H' := (mkH [])) (by kernel_rfl) ?_
      refine ok_split 17 (b := decide (x0_2.1 < 0)) (by kernel_rfl) (fun hb => ?_) (fun hb => ?_)
      · refine ok_run 6 (p' := .fin) (env' := ((2, .bool false) :: (17, .bool true) :: E3)) (H' := (mkH [])) (by kernel_rfl) ?_
        exact ok_ret (r := false) (xs := [.bool false]) (v := .bool false) (by kernel_rfl) (by kernel_rfl) (by kernel_rfl) (.pures (by kernel_rfl)) (by kernel_rfl)
      · let E4 : Env := ((3, .int .i64 (fwrap .i64 (y1_0 + x0_2.2))) :: (20, .int .i64 (fwrap .i64 (y1_0 + x0_2.2))) :: (19, .int .i64 x0_2.2) :: (18, .int .i64 y1_0) :: (17, .bool false) :: E3)
        refine ok_run 8 (p' := g16p2) (env' := E4) (H' := (mkH [])) (by kernel_rfl) ?_
        refine ok_keep [0, 3] (env' := [(0, .str a0), (3, .int .i64 (fwrap .i64 (y1_0 + x0_2.2)))]) (by kernel_rfl) ?_
        exact ih (fwrap .i64 (y1_0 + x0_2.2))
    · refine ok_run 7 (p' := .fin) (env' := ((2, .bool true) :: (9, .bool false) :: E1)) (H' := (mkH [])) (by kernel_rfl) ?_
      exact ok_ret (r := true) (xs := [.bool true]) (v := .bool true) (by kernel_rfl) (by kernel_rfl) (by kernel_rfl) (.pures (by kernel_rfl)) (by kernel_rfl)
noncomputable def g16 (k : Nat) (a0 : (List Nat)) : Option Bool :=
  g16_l1 k a0 k 0
theorem g16_ok (k : Nat) (a0 : (List Nat)) (r : Bool) (h : g16 k a0 = some r) : PureOk Try.prog 16 [.str a0] (.bool r) := by
  refine pure_of X16 (fun _ => rfl) Try.func16 (by decide +kernel) (by kernel_rfl) (t := g16 k a0) ?_ h
  unfold g16
  refine ok_env (env' := [(0, .str a0)]) (by kernel_rfl) ?_
  refine ok_run 11 (p' := g16p2) (env' := [(3, .int .i64 0), (2, .bool false), (0, .str a0)]) (H' := (mkH [])) (by kernel_rfl) ?_
  refine ok_keep [0, 3] (env' := [(0, .str a0), (3, .int .i64 0)]) (by kernel_rfl) ?_
  exact (g16_l1_ok k a0 k) 0
end Go.Proofs.Ytfkefelgjbfkjaa.Am
