/- Function 39, plain, and that the program computes it. Printed by gen.py. -/
import Derived.Test.YtokcjgjgojlhbaaTy
import Derived.Test.YtokcjgjgojlhbaaG58
set_option maxRecDepth 100000
set_option linter.unusedVariables false
namespace Go.Proofs.Ytokcjgjgojlhbaa.Am
open Go

/-! 39 galley/scan.inner -/
noncomputable def X39 : Fx Int := ⟨Try.prog, cx, Try.f39, fun r => .int .i64 r, 0, fun _ => H0, cxTi, cxOrd⟩
noncomputable def g39p0 : Pt := nav [0] (bodyAt Try.f39)
noncomputable def g39p1 : Pt := nav [0, 0, 0] g39p0
noncomputable def g39p2 : Pt := nav [0, 0, 0, 0, 0] g39p1
noncomputable def g39p3 : Pt := nav [0, 0, 0] g39p2
noncomputable def g39p4 : Pt := nav [0, 0] g39p3
noncomputable def g39p5 : Pt := nav [1, 0, 0] g39p4
noncomputable def g39p6 : Pt := nav [2, 0, 0] g39p4
noncomputable def g39_l1 (k : Nat)  (a0 : (List Nat)) (n : Nat) : Int → Option Int :=
  Nat.rec (motive := fun _ => Int → Option Int) (fun _ => none) (fun _ ih => fun (y1_0 : Int) => jn (fun (z2 : Bool × Int) => if z2.1 then (ih (fwrap .i64 (z2.2 + 1))) else (some z2.2)) (fun j2 => if (decide (y1_0 < (a0.length : Int))) then ((nthS a0 y1_0).bind fun x0_7 => (g58 k x0_7).bind fun x0_8 => j2 (x0_8, y1_0)) else (j2 (false, y1_0)))) n
theorem g39_l1_s (k : Nat)  (a0 : (List Nat)) (n : Nat) (y1_0 : Int) : g39_l1 k a0 (n + 1) y1_0 = (jn (fun (z2 : Bool × Int) => if z2.1 then ((g39_l1 k a0 n) (fwrap .i64 (z2.2 + 1))) else (some z2.2)) (fun j2 => if (decide (y1_0 < (a0.length : Int))) then ((nthS a0 y1_0).bind fun x0_7 => (g58 k x0_7).bind fun x0_8 => j2 (x0_8, y1_0)) else (j2 (false, y1_0)))) := rfl
theorem g39_l1_ok (k : Nat)  (a0 : (List Nat))  : ∀ (n : Nat) (y1_0 : Int), Ok X39 g39p2 [(0, .str a0), (3, .int .i64 y1_0)] (mkH []) (g39_l1 k a0 n y1_0)
  | 0, _ => ok_none
  | n + 1, y1_0 => by
    have ih := g39_l1_ok k a0 n
    rw [g39_l1_s]
    refine ok_ent (p' := nav [0] g39p2) (by kernel_rfl) ?_
    let E1 : Env := [(8, .bool (decide (y1_0 < (a0.length : Int)))), (7, .bool (decide (y1_0 < (a0.length : Int)))), (6, .int .i64 (a0.length : Int)), (5, .str a0), (4, .int .i64 y1_0), (0, .str a0), (3, .int .i64 y1_0)]
    refine ok_run 8 (p' := (atN 5 (ctl1 g39p3))) (env' := E1) (H' := (mkH [])) (by kernel_rfl) ?_
    refine ok_jn (f := fun (z2 : Bool × Int) => if z2.1 then ((g39_l1 k a0 n) (fwrap .i64 (z2.2 + 1))) else (some z2.2)) g39p4 (fun (z2 : Bool × Int) => [(0, .str a0), (3, .int .i64 z2.2), (13, .bool z2.1)]) (fun (z2 : Bool × Int) => (mkH [])) (fun z2 => ?_) (fun j2 hj2 => ?_)
    · refine ok_split 13 (b := z2.1) (by kernel_rfl) (fun hb => ?_) (fun hb => ?_)
      · let E2 : Env := [(3, .int .i64 (fwrap .i64 (z2.2 + 1))), (15, .int .i64 (fwrap .i64 (z2.2 + 1))), (14, .int .i64 z2.2), (13, .bool true), (0, .str a0), (3, .int .i64 z2.2), (13, .bool z2.1)]
        refine ok_run 8 (p' := g39p2) (env' := E2) (H' := (mkH [])) (by kernel_rfl) ?_
        refine ok_keep [0, 3] (env' := [(0, .str a0), (3, .int .i64 (fwrap .i64 (z2.2 + 1)))]) (by kernel_rfl) ?_
        exact ih (fwrap .i64 (z2.2 + 1))
      · let E3 : Env := [(2, .int .i64 z2.2), (16, .int .i64 z2.2), (13, .bool false), (0, .str a0), (3, .int .i64 z2.2), (13, .bool z2.1)]
        refine ok_run 8 (p' := .fin) (env' := E3) (H' := (mkH [])) (by kernel_rfl) ?_
        exact ok_ret (r := z2.2) (xs := [.int .i64 z2.2]) (v := .int .i64 z2.2) (by kernel_rfl) (by kernel_rfl) (by kernel_rfl) (.pures (by kernel_rfl)) (by kernel_rfl)
    · refine ok_split 8 (b := decide (y1_0 < (a0.length : Int))) (by kernel_rfl) (fun hb => ?_) (fun hb => ?_)
      · refine ok_run 2 (p' := (atN 7 (ctl1 g39p3))) (env' := ((10, .int .i64 y1_0) :: (9, .str a0) :: (8, .bool true) :: E1)) (H' := (mkH [])) (by kernel_rfl) ?_
        refine ok_chk (fun (x0_7 : Int) => (.int .u8 x0_7, (mkH []))) (atN 8 (ctl1 g39p3)) (fun x0_7 => ((11, .int .u8 x0_7) :: (10, .int .i64 y1_0) :: (9, .str a0) :: (8, .bool true) :: E1)) (idxH (by kernel_rfl)) (fun _ => by kernel_rfl) (fun x0_7 hx0_7 => ?_)
        refine ok_call (fun (x0_8 : Bool) => .bool x0_8) (atN 9 (ctl1 g39p3)) (fun x0_8 => ((12, .bool x0_8) :: (11, .int .u8 x0_7) :: (10, .int .i64 y1_0) :: (9, .str a0) :: (8, .bool true) :: E1)) (fi := 58) (args := [.int .u8 x0_7]) (by kernel_rfl) (by kernel_rfl) (fun _ => by kernel_rfl) (fun r h => g58_ok k x0_7 r h) (fun _ => by kernel_rfl) (fun x0_8 hx0_8 => ?_)
        let E4 : Env := ((13, .bool x0_8) :: (12, .bool x0_8) :: (11, .int .u8 x0_7) :: (10, .int .i64 y1_0) :: (9, .str a0) :: (8, .bool true) :: E1)
        refine ok_run 2 (p' := g39p4) (env' := E4) (H' := (mkH [])) (by kernel_rfl) ?_
        refine ok_keep [0, 3, 13] (env' := [(0, .str a0), (3, .int .i64 y1_0), (13, .bool x0_8)]) (by kernel_rfl) ?_
        exact hj2 (x0_8, y1_0)
      · let E5 : Env := ((13, .bool false) :: (12, .tuple []) :: (11, .tuple []) :: (10, .tuple []) :: (9, .tuple []) :: (8, .bool false) :: E1)
        refine ok_run 6 (p' := g39p4) (env' := E5) (H' := (mkH [])) (by kernel_rfl) ?_
        refine ok_keep [0, 3, 13] (env' := [(0, .str a0), (3, .int .i64 y1_0), (13, .bool false)]) (by kernel_rfl) ?_
        exact hj2 (false, y1_0)
noncomputable def g39 (k : Nat) (a0 : (List Nat)) : Option Int :=
  g39_l1 k a0 k 0
theorem g39_ok (k : Nat) (a0 : (List Nat)) (r : Int) (h : g39 k a0 = some r) : PureOk Try.prog 39 [.str a0] (.int .i64 r) := by
  refine pure_of X39 (fun _ => rfl) Try.func39 (by decide +kernel) (by kernel_rfl) (t := g39 k a0) ?_ h
  unfold g39
  refine ok_env (env' := [(0, .str a0)]) (by kernel_rfl) ?_
  refine ok_run 11 (p' := g39p2) (env' := [(3, .int .i64 0), (2, .int .i64 0), (0, .str a0)]) (H' := (mkH [])) (by kernel_rfl) ?_
  refine ok_keep [0, 3] (env' := [(0, .str a0), (3, .int .i64 0)]) (by kernel_rfl) ?_
  exact (g39_l1_ok k a0 k) 0
end Go.Proofs.Ytokcjgjgojlhbaa.Am
