/- Function 53, plain, and that the program computes it. Printed by gen.py. -/
import Derived.Test.YtokcjgjgojlhbaaTy
set_option maxRecDepth 100000
set_option linter.unusedVariables false
namespace Go.Proofs.Ytokcjgjgojlhbaa.Am
open Go

/-! 53 galley/scan.at -/
noncomputable def X53 : Fx Int := ⟨Try.prog, cx, Try.f53, fun r => .int .u8 r, 0, fun _ => H0, cxTi, cxOrd⟩
noncomputable def g53p0 : Pt := nav [0] (bodyAt Try.f53)
noncomputable def g53p1 : Pt := nav [0, 0, 0, 0] g53p0
noncomputable def g53p2 : Pt := nav [0, 0] g53p1
noncomputable def g53p3 : Pt := nav [1, 0] g53p2
noncomputable def g53p4 : Pt := nav [2, 0, 0] g53p2
noncomputable def g53 (k : Nat) (a0 : (List Nat)) (a1 : Int) : Option Int :=
  if (decide ((a0.length : Int) ≤ a1)) then (some (0 : Int)) else ((nthS a0 a1).bind fun x0_2 => some x0_2)
theorem g53_ok (k : Nat) (a0 : (List Nat)) (a1 : Int) (r : Int) (h : g53 k a0 a1 = some r) : PureOk Try.prog 53 [.str a0, .int .i64 a1] (.int .u8 r) := by
  refine pure_of X53 (fun _ => rfl) Try.func53 (by decide +kernel) (by kernel_rfl) (t := g53 k a0 a1) ?_ h
  unfold g53
  refine ok_env (env' := [(0, .str a0), (1, .int .i64 a1)]) (by kernel_rfl) ?_
  let E1 : Env := [(8, .bool (decide ((a0.length : Int) ≤ a1))), (7, .int .i64 (a0.length : Int)), (6, .str a0), (5, .int .i64 a1), (4, .int .u8 0), (0, .str a0), (1, .int .i64 a1)]
  refine ok_run 12 (p' := g53p2) (env' := E1) (H' := (mkH [])) (by kernel_rfl) ?_
  refine ok_split 8 (b := decide ((a0.length : Int) ≤ a1)) (by kernel_rfl) (fun hb => ?_) (fun hb => ?_)
  · refine ok_run 6 (p' := .fin) (env' := ((4, .int .u8 0) :: (8, .bool true) :: E1)) (H' := (mkH [])) (by kernel_rfl) ?_
    exact ok_ret (r := (0 : Int)) (xs := [.int .u8 0]) (v := .int .u8 0) (by kernel_rfl) (by kernel_rfl) (by kernel_rfl) (.pures (by kernel_rfl)) (by kernel_rfl)
  · refine ok_run 6 (p' := (atN 2 (ctl1 g53p4))) (env' := ((10, .int .i64 a1) :: (9, .str a0) :: (8, .bool false) :: E1)) (H' := (mkH [])) (by kernel_rfl) ?_
    refine ok_chk (fun (x0_2 : Int) => (.int .u8 x0_2, (mkH []))) (atN 3 (ctl1 g53p4)) (fun x0_2 => ((11, .int .u8 x0_2) :: (10, .int .i64 a1) :: (9, .str a0) :: (8, .bool false) :: E1)) (idxH (by kernel_rfl)) (fun _ => by kernel_rfl) (fun x0_2 hx0_2 => ?_)
    let E2 : Env := ((4, .int .u8 x0_2) :: (11, .int .u8 x0_2) :: (10, .int .i64 a1) :: (9, .str a0) :: (8, .bool false) :: E1)
    refine ok_run 3 (p' := .fin) (env' := E2) (H' := (mkH [])) (by kernel_rfl) ?_
    exact ok_ret (r := x0_2) (xs := [.int .u8 x0_2]) (v := .int .u8 x0_2) (by kernel_rfl) (by kernel_rfl) (by kernel_rfl) (.pures (by kernel_rfl)) (by kernel_rfl)
end Go.Proofs.Ytokcjgjgojlhbaa.Am
