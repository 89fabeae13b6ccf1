/- Function 16, plain, and that the program computes it. Printed by gen.py. -/
import Derived.Test.YtokcjgjgojlhbaaTy
import Derived.Test.YtokcjgjgojlhbaaG30
set_option maxRecDepth 100000
set_option linter.unusedVariables false
namespace Go.Proofs.Ytokcjgjgojlhbaa.Am
open Go

/-! 16 galley/scan.Blank -/
noncomputable def X16 : Fx Int := ⟨Try.prog, cx, Try.f16, fun r => .int .i64 r, 0, fun _ => H0, cxTi, cxOrd⟩
noncomputable def g16p0 : Pt := nav [0] (bodyAt Try.f16)
noncomputable def g16p1 : Pt := nav [0, 0, 0, 0] g16p0
noncomputable def g16p2 : Pt := nav [0, 0, 0, 0] g16p1
noncomputable def g16p3 : Pt := nav [0, 0, 0] g16p2
noncomputable def g16p4 : Pt := nav [0, 0] g16p3
noncomputable def g16p5 : Pt := nav [1, 0, 0, 0, 0] g16p4
noncomputable def g16p6 : Pt := nav [2, 0, 0] g16p4
noncomputable def g16_l1 (k : Nat)  (a0 : (List Nat)) (n : Nat) : Int → Option Int :=
  Nat.rec (motive := fun _ => Int → Option Int) (fun _ => none) (fun _ ih => fun (y1_0 : Int) => jn (fun (z2 : Bool × Int) => if z2.1 then (ih (fwrap .i64 (z2.2 + 1))) else (some (minI z2.2 (a0.length : Int)))) (fun j2 => if (decide (y1_0 < (a0.length : Int))) then ((nthS a0 y1_0).bind fun x0_7 => (g30 k x0_7).bind fun x0_8 => j2 (x0_8, y1_0)) else (j2 (false, y1_0)))) n
theorem g16_l1_s (k : Nat)  (a0 : (List Nat)) (n : Nat) (y1_0 : Int) : g16_l1 k a0 (n + 1) y1_0 = (jn (fun (z2 : Bool × Int) => if z2.1 then ((g16_l1 k a0 n) (fwrap .i64 (z2.2 + 1))) else (some (minI z2.2 (a0.length : Int)))) (fun j2 => if (decide (y1_0 < (a0.length : Int))) then ((nthS a0 y1_0).bind fun x0_7 => (g30 k x0_7).bind fun x0_8 => j2 (x0_8, y1_0)) else (j2 (false, y1_0)))) := rfl
theorem g16_l1_ok (k : Nat)  (a0 : (List Nat))  : ∀ (n : Nat) (y1_0 : Int), Ok X16 g16p2 [(0, .str a0), (1, .int .i64 y1_0)] (mkH []) (g16_l1 k a0 n y1_0)
  | 0, _ => ok_none
  | n + 1, y1_0 => by
    have ih := g16_l1_ok k a0 n
    rw [g16_l1_s]
    refine ok_ent (p' := nav [0] g16p2) (by kernel_rfl) ?_
    let E2 : Env := [(11, .bool (decide (y1_0 < (a0.length : Int)))), (10, .bool (decide (y1_0 < (a0.length : Int)))), (9, .int .i64 (a0.length : Int)), (8, .str a0), (7, .int .i64 y1_0), (0, .str a0), (1, .int .i64 y1_0)]
    refine ok_run 8 (p' := (atN 5 (ctl1 g16p3))) (env' := E2) (H' := (mkH [])) (by kernel_rfl) ?_
    refine ok_jn (f := fun (z2 : Bool × Int) => if z2.1 then ((g16_l1 k a0 n) (fwrap .i64 (z2.2 + 1))) else (some (minI z2.2 (a0.length : Int)))) g16p4 (fun (z2 : Bool × Int) => [(0, .str a0), (1, .int .i64 z2.2), (16, .bool z2.1)]) (fun (z2 : Bool × Int) => (mkH [])) (fun z2 => ?_) (fun j2 hj2 => ?_)
    · refine ok_split 16 (b := z2.1) (by kernel_rfl) (fun hb => ?_) (fun hb => ?_)
      · let E3 : Env := [(1, .int .i64 (fwrap .i64 (z2.2 + 1))), (18, .int .i64 (fwrap .i64 (z2.2 + 1))), (17, .int .i64 z2.2), (16, .bool true), (0, .str a0), (1, .int .i64 z2.2), (16, .bool z2.1)]
        refine ok_run 10 (p' := g16p2) (env' := E3) (H' := (mkH [])) (by kernel_rfl) ?_
        refine ok_keep [0, 1] (env' := [(0, .str a0), (1, .int .i64 (fwrap .i64 (z2.2 + 1)))]) (by kernel_rfl) ?_
        exact ih (fwrap .i64 (z2.2 + 1))
      · let E4 : Env := [(4, .int .i64 (minI z2.2 (a0.length : Int))), (22, .int .i64 (minI z2.2 (a0.length : Int))), (21, .int .i64 (a0.length : Int)), (20, .str a0), (19, .int .i64 z2.2), (16, .bool false), (0, .str a0), (1, .int .i64 z2.2), (16, .bool z2.1)]
        refine ok_run 11 (p' := .fin) (env' := E4) (H' := (mkH [])) (by kernel_rfl) ?_
        exact ok_ret (r := (minI z2.2 (a0.length : Int))) (xs := [.int .i64 (minI z2.2 (a0.length : Int))]) (v := .int .i64 (minI z2.2 (a0.length : Int))) (by kernel_rfl) (by kernel_rfl) (by kernel_rfl) (.pures (by kernel_rfl)) (by kernel_rfl)
    · refine ok_split 11 (b := decide (y1_0 < (a0.length : Int))) (by kernel_rfl) (fun hb => ?_) (fun hb => ?_)
      · refine ok_run 2 (p' := (atN 7 (ctl1 g16p3))) (env' := ((13, .int .i64 y1_0) :: (12, .str a0) :: (11, .bool true) :: E2)) (H' := (mkH [])) (by kernel_rfl) ?_
        refine ok_chk (fun (x0_7 : Int) => (.int .u8 x0_7, (mkH []))) (atN 8 (ctl1 g16p3)) (fun x0_7 => ((14, .int .u8 x0_7) :: (13, .int .i64 y1_0) :: (12, .str a0) :: (11, .bool true) :: E2)) (idxH (by kernel_rfl)) (fun _ => by kernel_rfl) (fun x0_7 hx0_7 => ?_)
        refine ok_call (fun (x0_8 : Bool) => .bool x0_8) (atN 9 (ctl1 g16p3)) (fun x0_8 => ((15, .bool x0_8) :: (14, .int .u8 x0_7) :: (13, .int .i64 y1_0) :: (12, .str a0) :: (11, .bool true) :: E2)) (fi := 30) (args := [.int .u8 x0_7]) (by kernel_rfl) (by kernel_rfl) (fun _ => by kernel_rfl) (fun r h => g30_ok k x0_7 r h) (fun _ => by kernel_rfl) (fun x0_8 hx0_8 => ?_)
        let E5 : Env := ((16, .bool x0_8) :: (15, .bool x0_8) :: (14, .int .u8 x0_7) :: (13, .int .i64 y1_0) :: (12, .str a0) :: (11, .bool true) :: E2)
        refine ok_run 2 (p' := g16p4) (env' := E5) (H' := (mkH [])) (by kernel_rfl) ?_
        refine ok_keep [0, 1, 16] (env' := [(0, .str a0), (1, .int .i64 y1_0), (16, .bool x0_8)]) (by kernel_rfl) ?_
        exact hj2 (x0_8, y1_0)
      · let E6 : Env := ((16, .bool false) :: (15, .tuple []) :: (14, .tuple []) :: (13, .tuple []) :: (12, .tuple []) :: (11, .bool false) :: E2)
        refine ok_run 6 (p' := g16p4) (env' := E6) (H' := (mkH [])) (by kernel_rfl) ?_
        refine ok_keep [0, 1, 16] (env' := [(0, .str a0), (1, .int .i64 y1_0), (16, .bool false)]) (by kernel_rfl) ?_
        exact hj2 (false, y1_0)
noncomputable def g16 (k : Nat) (a0 : (List Nat)) (a1 : Int) : Option Int :=
  g16_l1 k a0 k (maxI a1 0)
theorem g16_ok (k : Nat) (a0 : (List Nat)) (a1 : Int) (r : Int) (h : g16 k a0 a1 = some r) : PureOk Try.prog 16 [.str a0, .int .i64 a1] (.int .i64 r) := by
  refine pure_of X16 (fun _ => rfl) Try.func16 (by decide +kernel) (by kernel_rfl) (t := g16 k a0 a1) ?_ h
  unfold g16
  refine ok_env (env' := [(0, .str a0), (1, .int .i64 a1)]) (by kernel_rfl) ?_
  let E1 : Env := [(1, .int .i64 (maxI a1 0)), (6, .int .i64 (maxI a1 0)), (5, .int .i64 a1), (4, .int .i64 0), (0, .str a0), (1, .int .i64 a1)]
  refine ok_run 13 (p' := g16p2) (env' := E1) (H' := (mkH [])) (by kernel_rfl) ?_
  refine ok_keep [0, 1] (env' := [(0, .str a0), (1, .int .i64 (maxI a1 0))]) (by kernel_rfl) ?_
  exact (g16_l1_ok k a0 k) (maxI a1 0)
end Go.Proofs.Ytokcjgjgojlhbaa.Am
