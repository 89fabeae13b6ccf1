/- Function 33, plain, and that the program computes it. Printed by gen.py. -/
import Derived.Test.YtokcjgjgojlhbaaTy
import Derived.Test.YtokcjgjgojlhbaaG30
set_option maxRecDepth 100000
set_option linter.unusedVariables false
namespace Go.Proofs.Ytokcjgjgojlhbaa.Am
open Go

/-! 33 galley/scan.note -/
noncomputable def X33 : Fx Int := ⟨Try.prog, cx, Try.f33, fun r => .int .i64 r, 0, fun _ => H0, cxTi, cxOrd⟩
noncomputable def g33p0 : Pt := nav [0] (bodyAt Try.f33)
noncomputable def g33p1 : Pt := nav [0, 0, 0] g33p0
noncomputable def g33p2 : Pt := nav [0, 0, 0, 0, 0] g33p1
noncomputable def g33p3 : Pt := nav [0, 0, 0] g33p2
noncomputable def g33p4 : Pt := nav [0, 0] g33p3
noncomputable def g33p5 : Pt := nav [1, 0, 0] g33p4
noncomputable def g33p6 : Pt := nav [2, 0, 0, 0, 0] g33p4
noncomputable def g33p7 : Pt := nav [0, 0, 0] g33p6
noncomputable def g33p8 : Pt := nav [0, 0] g33p7
noncomputable def g33p9 : Pt := nav [1, 0, 0] g33p8
noncomputable def g33p10 : Pt := nav [2, 0, 0] g33p8
noncomputable def g33_l4 (k : Nat)  (a0 : (List Nat)) (n : Nat) : Int → Option Int :=
  Nat.rec (motive := fun _ => Int → Option Int) (fun _ => none) (fun _ ih => fun (y4_0 : Int) => (nthS a0 (fwrap .i64 (y4_0 - 1))).bind fun x1_3 => (g30 k x1_3).bind fun x1_4 => if x1_4 then (ih (fwrap .i64 (y4_0 - 1))) else (some y4_0)) n
theorem g33_l4_s (k : Nat)  (a0 : (List Nat)) (n : Nat) (y4_0 : Int) : g33_l4 k a0 (n + 1) y4_0 = ((nthS a0 (fwrap .i64 (y4_0 - 1))).bind fun x1_3 => (g30 k x1_3).bind fun x1_4 => if x1_4 then ((g33_l4 k a0 n) (fwrap .i64 (y4_0 - 1))) else (some y4_0)) := rfl
theorem g33_l4_ok (k : Nat)  (a0 : (List Nat))  : ∀ (n : Nat) (y4_0 : Int), Ok X33 g33p6 [(0, .str a0), (3, .int .i64 y4_0)] (mkH []) (g33_l4 k a0 n y4_0)
  | 0, _ => ok_none
  | n + 1, y4_0 => by
    have ih := g33_l4_ok k a0 n
    rw [g33_l4_s]
    refine ok_ent (p' := nav [0] g33p6) (by kernel_rfl) ?_
    let E3 : Env := [(18, .int .i64 (fwrap .i64 (y4_0 - 1))), (17, .int .i64 y4_0), (16, .str a0), (0, .str a0), (3, .int .i64 y4_0)]
    refine ok_run 6 (p' := (atN 3 (ctl1 g33p7))) (env' := E3) (H' := (mkH [])) (by kernel_rfl) ?_
    refine ok_chk (fun (x1_3 : Int) => (.int .u8 x1_3, (mkH []))) (atN 4 (ctl1 g33p7)) (fun x1_3 => ((19, .int .u8 x1_3) :: E3)) (idxH (by kernel_rfl)) (fun _ => by kernel_rfl) (fun x1_3 hx1_3 => ?_)
    refine ok_call (fun (x1_4 : Bool) => .bool x1_4) (atN 5 (ctl1 g33p7)) (fun x1_4 => ((20, .bool x1_4) :: (19, .int .u8 x1_3) :: E3)) (fi := 30) (args := [.int .u8 x1_3]) (by kernel_rfl) (by kernel_rfl) (fun _ => by kernel_rfl) (fun r h => g30_ok k x1_3 r h) (fun _ => by kernel_rfl) (fun x1_4 hx1_4 => ?_)
    refine ok_run 1 (p' := g33p8) (env' := ((20, .bool x1_4) :: (19, .int .u8 x1_3) :: E3)) (H' := (mkH [])) (by kernel_rfl) ?_
    refine ok_split 20 (b := x1_4) (by kernel_rfl) (fun hb => ?_) (fun hb => ?_)
    · let E4 : Env := ((3, .int .i64 (fwrap .i64 (y4_0 - 1))) :: (22, .int .i64 (fwrap .i64 (y4_0 - 1))) :: (21, .int .i64 y4_0) :: (20, .bool true) :: (20, .bool x1_4) :: (19, .int .u8 x1_3) :: E3)
      refine ok_run 8 (p' := g33p6) (env' := E4) (H' := (mkH [])) (by kernel_rfl) ?_
      refine ok_keep [0, 3] (env' := [(0, .str a0), (3, .int .i64 (fwrap .i64 (y4_0 - 1)))]) (by kernel_rfl) ?_
      exact ih (fwrap .i64 (y4_0 - 1))
    · let E5 : Env := ((2, .int .i64 y4_0) :: (23, .int .i64 y4_0) :: (20, .bool false) :: (20, .bool x1_4) :: (19, .int .u8 x1_3) :: E3)
      refine ok_run 8 (p' := .fin) (env' := E5) (H' := (mkH [])) (by kernel_rfl) ?_
      exact ok_ret (r := y4_0) (xs := [.int .i64 y4_0]) (v := .int .i64 y4_0) (by kernel_rfl) (by kernel_rfl) (by kernel_rfl) (.pures (by kernel_rfl)) (by kernel_rfl)
noncomputable def g33_l2 (k : Nat)  (a0 : (List Nat)) (n : Nat) : Int → Option Int :=
  Nat.rec (motive := fun _ => Int → Option Int) (fun _ => none) (fun _ ih => fun (y2_0 : Int) => jn (fun (z3 : Bool × Int) => if z3.1 then (ih (fwrap .i64 (z3.2 + 1))) else (g33_l4 k a0 k z3.2)) (fun j3 => if (decide (y2_0 < (a0.length : Int))) then ((nthS a0 y2_0).bind fun x0_7 => j3 (!decide (x0_7 = 10), y2_0)) else (j3 (false, y2_0)))) n
theorem g33_l2_s (k : Nat)  (a0 : (List Nat)) (n : Nat) (y2_0 : Int) : g33_l2 k a0 (n + 1) y2_0 = (jn (fun (z3 : Bool × Int) => if z3.1 then ((g33_l2 k a0 n) (fwrap .i64 (z3.2 + 1))) else (g33_l4 k a0 k z3.2)) (fun j3 => if (decide (y2_0 < (a0.length : Int))) then ((nthS a0 y2_0).bind fun x0_7 => j3 (!decide (x0_7 = 10), y2_0)) else (j3 (false, y2_0)))) := rfl
theorem g33_l2_ok (k : Nat)  (a0 : (List Nat))  : ∀ (n : Nat) (y2_0 : Int), Ok X33 g33p2 [(0, .str a0), (3, .int .i64 y2_0)] (mkH []) (g33_l2 k a0 n y2_0)
  | 0, _ => ok_none
  | n + 1, y2_0 => by
    have ih := g33_l2_ok k a0 n
    rw [g33_l2_s]
    refine ok_ent (p' := nav [0] g33p2) (by kernel_rfl) ?_
    let E1 : Env := [(8, .bool (decide (y2_0 < (a0.length : Int)))), (7, .bool (decide (y2_0 < (a0.length : Int)))), (6, .int .i64 (a0.length : Int)), (5, .str a0), (4, .int .i64 y2_0), (0, .str a0), (3, .int .i64 y2_0)]
    refine ok_run 8 (p' := (atN 5 (ctl1 g33p3))) (env' := E1) (H' := (mkH [])) (by kernel_rfl) ?_
    refine ok_jn (f := fun (z3 : Bool × Int) => if z3.1 then ((g33_l2 k a0 n) (fwrap .i64 (z3.2 + 1))) else (g33_l4 k a0 k z3.2)) g33p4 (fun (z3 : Bool × Int) => [(0, .str a0), (3, .int .i64 z3.2), (13, .bool z3.1)]) (fun (z3 : Bool × Int) => (mkH [])) (fun z3 => ?_) (fun j3 hj3 => ?_)
    · refine ok_split 13 (b := z3.1) (by kernel_rfl) (fun hb => ?_) (fun hb => ?_)
      · let E2 : Env := [(3, .int .i64 (fwrap .i64 (z3.2 + 1))), (15, .int .i64 (fwrap .i64 (z3.2 + 1))), (14, .int .i64 z3.2), (13, .bool true), (0, .str a0), (3, .int .i64 z3.2), (13, .bool z3.1)]
        refine ok_run 8 (p' := g33p2) (env' := E2) (H' := (mkH [])) (by kernel_rfl) ?_
        refine ok_keep [0, 3] (env' := [(0, .str a0), (3, .int .i64 (fwrap .i64 (z3.2 + 1)))]) (by kernel_rfl) ?_
        exact ih (fwrap .i64 (z3.2 + 1))
      · refine ok_run 5 (p' := g33p6) (env' := [(13, .bool false), (0, .str a0), (3, .int .i64 z3.2), (13, .bool z3.1)]) (H' := (mkH [])) (by kernel_rfl) ?_
        refine ok_keep [0, 3] (env' := [(0, .str a0), (3, .int .i64 z3.2)]) (by kernel_rfl) ?_
        exact (g33_l4_ok k a0 k) z3.2
    · refine ok_split 8 (b := decide (y2_0 < (a0.length : Int))) (by kernel_rfl) (fun hb => ?_) (fun hb => ?_)
      · refine ok_run 2 (p' := (atN 7 (ctl1 g33p3))) (env' := ((10, .int .i64 y2_0) :: (9, .str a0) :: (8, .bool true) :: E1)) (H' := (mkH [])) (by kernel_rfl) ?_
        refine ok_chk (fun (x0_7 : Int) => (.int .u8 x0_7, (mkH []))) (atN 8 (ctl1 g33p3)) (fun x0_7 => ((11, .int .u8 x0_7) :: (10, .int .i64 y2_0) :: (9, .str a0) :: (8, .bool true) :: E1)) (idxH (by kernel_rfl)) (fun _ => by kernel_rfl) (fun x0_7 hx0_7 => ?_)
        let E6 : Env := ((13, .bool (!decide (x0_7 = 10))) :: (12, .bool (!decide (x0_7 = 10))) :: (11, .int .u8 x0_7) :: (10, .int .i64 y2_0) :: (9, .str a0) :: (8, .bool true) :: E1)
        refine ok_run 3 (p' := g33p4) (env' := E6) (H' := (mkH [])) (by kernel_rfl) ?_
        refine ok_keep [0, 3, 13] (env' := [(0, .str a0), (3, .int .i64 y2_0), (13, .bool (!decide (x0_7 = 10)))]) (by kernel_rfl) ?_
        exact hj3 (!decide (x0_7 = 10), y2_0)
      · let E7 : Env := ((13, .bool false) :: (12, .tuple []) :: (11, .tuple []) :: (10, .tuple []) :: (9, .tuple []) :: (8, .bool false) :: E1)
        refine ok_run 6 (p' := g33p4) (env' := E7) (H' := (mkH [])) (by kernel_rfl) ?_
        refine ok_keep [0, 3, 13] (env' := [(0, .str a0), (3, .int .i64 y2_0), (13, .bool false)]) (by kernel_rfl) ?_
        exact hj3 (false, y2_0)
noncomputable def g33 (k : Nat) (a0 : (List Nat)) : Option Int :=
  g33_l2 k a0 k 0
theorem g33_ok (k : Nat) (a0 : (List Nat)) (r : Int) (h : g33 k a0 = some r) : PureOk Try.prog 33 [.str a0] (.int .i64 r) := by
  refine pure_of X33 (fun _ => rfl) Try.func33 (by decide +kernel) (by kernel_rfl) (t := g33 k a0) ?_ h
  unfold g33
  refine ok_env (env' := [(0, .str a0)]) (by kernel_rfl) ?_
  refine ok_run 11 (p' := g33p2) (env' := [(3, .int .i64 0), (2, .int .i64 0), (0, .str a0)]) (H' := (mkH [])) (by kernel_rfl) ?_
  refine ok_keep [0, 3] (env' := [(0, .str a0), (3, .int .i64 0)]) (by kernel_rfl) ?_
  exact (g33_l2_ok k a0 k) 0
end Go.Proofs.Ytokcjgjgojlhbaa.Am
