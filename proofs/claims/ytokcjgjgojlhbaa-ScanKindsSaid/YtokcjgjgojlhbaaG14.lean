/- Function 14, plain, and that the program computes it. Printed by gen.py. -/
import Derived.Test.YtokcjgjgojlhbaaTy
import Derived.Test.YtokcjgjgojlhbaaG20
set_option maxRecDepth 100000
set_option linter.unusedVariables false
namespace Go.Proofs.Ytokcjgjgojlhbaa.Am
open Go

/-! 14 galley/scan.One -/
noncomputable def X14 : Fx (S28 × Int) := ⟨Try.prog, cx, Try.f14, fun r => .tuple [.agg [.int .i64 r.1.f0, .str r.1.f1, .int .i64 r.1.f2], .int .i64 r.2], 0, fun _ => H0, cxTi, cxOrd⟩
noncomputable def g14p0 : Pt := nav [0] (bodyAt Try.f14)
noncomputable def g14p1 : Pt := nav [0, 0, 0, 0] g14p0
noncomputable def g14p2 : Pt := nav [0, 0] g14p1
noncomputable def g14p3 : Pt := nav [1, 0] g14p2
noncomputable def g14p4 : Pt := nav [2, 0, 0] g14p2
noncomputable def g14p6 : Pt := nav [0, 0, 0, 0] g14p4
noncomputable def g14p7 : Pt := nav [0, 0] g14p6
noncomputable def g14p8 : Pt := nav [1, 0] g14p7
noncomputable def g14p9 : Pt := nav [2, 0, 0] g14p7
noncomputable def g14 (k : Nat) (a0 : (List Nat)) (a1 : Int) : Option (S28 × Int) :=
  jn (fun (z2 : Bool) => if z2 then (some ((⟨(0 : Int), ([] : List Nat), (0 : Int)⟩ : S28), (4 : Int))) else ((subL a0 (some a1) none).bind fun x0_2 => (g20 k x0_2).bind fun x0_3 => if (decide (x0_3.1 = 0)) then (some ((⟨(0 : Int), ([] : List Nat), (0 : Int)⟩ : S28), (4 : Int))) else ((subL a0 (some a1) (some (fwrap .i64 (a1 + x0_3.1)))).bind fun x1_6 => some ((⟨x0_3.2, x1_6, a1⟩ : S28), (0 : Int))))) (fun j2 => if (decide (a1 < 0)) then (j2 true) else (j2 (decide ((a0.length : Int) ≤ a1))))
theorem g14_ok (k : Nat) (a0 : (List Nat)) (a1 : Int) (r : (S28 × Int)) (h : g14 k a0 a1 = some r) : PureOk Try.prog 14 [.str a0, .int .i64 a1] (.tuple [.agg [.int .i64 r.1.f0, .str r.1.f1, .int .i64 r.1.f2], .int .i64 r.2]) := by
  refine pure_of X14 (fun _ => rfl) Try.func14 (by decide +kernel) (by kernel_rfl) (t := g14 k a0 a1) ?_ h
  unfold g14
  refine ok_env (env' := [(0, .str a0), (1, .int .i64 a1)]) (by kernel_rfl) ?_
  let E1 : Env := [(10, .bool (decide (a1 < 0))), (9, .bool (decide (a1 < 0))), (8, .int .i64 a1), (5, .int .i64 0), (4, .ptr 0 3 0), (0, .str a0), (1, .int .i64 a1)]
  refine ok_run 11 (p' := (atN 3 (ctl1 g14p1))) (env' := E1) (H' := (mkH [⟨[.int .i64 0, .str [], .int .i64 0], 0, false⟩])) (by kernel_rfl) ?_
  refine ok_jn (f := fun (z2 : Bool) => if z2 then (some ((⟨(0 : Int), ([] : List Nat), (0 : Int)⟩ : S28), (4 : Int))) else ((subL a0 (some a1) none).bind fun x0_2 => (g20 k x0_2).bind fun x0_3 => if (decide (x0_3.1 = 0)) then (some ((⟨(0 : Int), ([] : List Nat), (0 : Int)⟩ : S28), (4 : Int))) else ((subL a0 (some a1) (some (fwrap .i64 (a1 + x0_3.1)))).bind fun x1_6 => some ((⟨x0_3.2, x1_6, a1⟩ : S28), (0 : Int))))) g14p2 (fun (z2 : Bool) => [(0, .str a0), (1, .int .i64 a1), (4, .ptr 0 3 0), (15, .bool z2)]) (fun (z2 : Bool) => (mkH [⟨[.int .i64 0, .str [], .int .i64 0], 0, false⟩])) (fun z2 => ?_) (fun j2 hj2 => ?_)
  · refine ok_split 15 (b := z2) (by kernel_rfl) (fun hb => ?_) (fun hb => ?_)
    · let E2 : Env := [(5, .int .i64 4), (16, .agg [.int .i64 0, .str [], .int .i64 0]), (15, .bool true), (0, .str a0), (1, .int .i64 a1), (4, .ptr 0 3 0), (15, .bool z2)]
      refine ok_run 8 (p' := .fin) (env' := E2) (H' := (mkH [⟨[.int .i64 0, .str [], .int .i64 0], 3, false⟩])) (by kernel_rfl) ?_
      exact ok_ret (r := ((⟨(0 : Int), ([] : List Nat), (0 : Int)⟩ : S28), (4 : Int))) (xs := [.agg [.int .i64 0, .str [], .int .i64 0], .int .i64 4]) (v := .tuple [.agg [.int .i64 0, .str [], .int .i64 0], .int .i64 4]) (by kernel_rfl) (by kernel_rfl) (by kernel_rfl) (.pures (by kernel_rfl)) (by kernel_rfl)
    · let E3 : Env := [(19, .int .i64 a1), (18, .str a0), (15, .bool false), (0, .str a0), (1, .int .i64 a1), (4, .ptr 0 3 0), (15, .bool z2)]
      refine ok_run 6 (p' := (atN 2 (ctl1 g14p4))) (env' := E3) (H' := (mkH [⟨[.int .i64 0, .str [], .int .i64 0], 0, false⟩])) (by kernel_rfl) ?_
      refine ok_chk (fun (x0_2 : (List Nat)) => (.str x0_2, (mkH [⟨[.int .i64 0, .str [], .int .i64 0], 0, false⟩]))) (atN 3 (ctl1 g14p4)) (fun x0_2 => ((20, .str x0_2) :: E3)) (subH (some a1) none (by kernel_rfl)) (fun _ => by kernel_rfl) (fun x0_2 hx0_2 => ?_)
      refine ok_call (fun (x0_3 : (Int × Int)) => .tuple [.int .i64 x0_3.1, .int .i64 x0_3.2]) (atN 4 (ctl1 g14p4)) (fun x0_3 => ((21, .tuple [.int .i64 x0_3.1, .int .i64 x0_3.2]) :: (20, .str x0_2) :: E3)) (fi := 20) (args := [.str x0_2]) (by kernel_rfl) (by kernel_rfl) (fun _ => by kernel_rfl) (fun r h => g20_ok k x0_2 r h) (fun _ => by kernel_rfl) (fun x0_3 hx0_3 => ?_)
      let E4 : Env := ((7, .int .i64 x0_3.2) :: (6, .int .i64 x0_3.1) :: (23, .int .i64 x0_3.2) :: (22, .int .i64 x0_3.1) :: (17, .tuple [.int .i64 x0_3.1, .int .i64 x0_3.2]) :: (21, .tuple [.int .i64 x0_3.1, .int .i64 x0_3.2]) :: (20, .str x0_2) :: E3)
      refine ok_run 8 (p' := g14p6) (env' := E4) (H' := (mkH [⟨[.int .i64 0, .str [], .int .i64 0], 0, false⟩])) (by kernel_rfl) ?_
      refine ok_keep [0, 1, 4, 6, 7] (env' := [(0, .str a0), (1, .int .i64 a1), (4, .ptr 0 3 0), (6, .int .i64 x0_3.1), (7, .int .i64 x0_3.2)]) (by kernel_rfl) ?_
      let E5 : Env := [(25, .bool (decide (x0_3.1 = 0))), (24, .int .i64 x0_3.1), (0, .str a0), (1, .int .i64 a1), (4, .ptr 0 3 0), (6, .int .i64 x0_3.1), (7, .int .i64 x0_3.2)]
      refine ok_run 4 (p' := g14p7) (env' := E5) (H' := (mkH [⟨[.int .i64 0, .str [], .int .i64 0], 0, false⟩])) (by kernel_rfl) ?_
      refine ok_split 25 (b := decide (x0_3.1 = 0)) (by kernel_rfl) (fun hb => ?_) (fun hb => ?_)
      · refine ok_run 8 (p' := .fin) (env' := ((5, .int .i64 4) :: (26, .agg [.int .i64 0, .str [], .int .i64 0]) :: (25, .bool true) :: E5)) (H' := (mkH [⟨[.int .i64 0, .str [], .int .i64 0], 3, false⟩])) (by kernel_rfl) ?_
        exact ok_ret (r := ((⟨(0 : Int), ([] : List Nat), (0 : Int)⟩ : S28), (4 : Int))) (xs := [.agg [.int .i64 0, .str [], .int .i64 0], .int .i64 4]) (v := .tuple [.agg [.int .i64 0, .str [], .int .i64 0], .int .i64 4]) (by kernel_rfl) (by kernel_rfl) (by kernel_rfl) (.pures (by kernel_rfl)) (by kernel_rfl)
      · let E6 : Env := ((32, .int .i64 (fwrap .i64 (a1 + x0_3.1))) :: (31, .int .i64 x0_3.1) :: (30, .int .i64 a1) :: (29, .int .i64 a1) :: (28, .str a0) :: (27, .int .i64 x0_3.2) :: (25, .bool false) :: E5)
        refine ok_run 10 (p' := (atN 6 (ctl1 g14p9))) (env' := E6) (H' := (mkH [⟨[.int .i64 0, .str [], .int .i64 0], 0, false⟩])) (by kernel_rfl) ?_
        refine ok_chk (fun (x1_6 : (List Nat)) => (.str x1_6, (mkH [⟨[.int .i64 0, .str [], .int .i64 0], 0, false⟩]))) (atN 7 (ctl1 g14p9)) (fun x1_6 => ((33, .str x1_6) :: E6)) (subH (some a1) (some (fwrap .i64 (a1 + x0_3.1))) (by kernel_rfl)) (fun _ => by kernel_rfl) (fun x1_6 hx1_6 => ?_)
        refine ok_run 6 (p' := .fin) (env' := ((5, .int .i64 0) :: (35, .agg [.int .i64 x0_3.2, .str x1_6, .int .i64 a1]) :: (34, .int .i64 a1) :: (33, .str x1_6) :: E6)) (H' := (mkH [⟨[.int .i64 x0_3.2, .str x1_6, .int .i64 a1], 3, false⟩])) (by kernel_rfl) ?_
        exact ok_ret (r := ((⟨x0_3.2, x1_6, a1⟩ : S28), (0 : Int))) (xs := [.agg [.int .i64 x0_3.2, .str x1_6, .int .i64 a1], .int .i64 0]) (v := .tuple [.agg [.int .i64 x0_3.2, .str x1_6, .int .i64 a1], .int .i64 0]) (by kernel_rfl) (by kernel_rfl) (by kernel_rfl) (.pures (by kernel_rfl)) (by kernel_rfl)
  · refine ok_split 10 (b := decide (a1 < 0)) (by kernel_rfl) (fun hb => ?_) (fun hb => ?_)
    · let E7 : Env := ((15, .bool true) :: (14, .tuple []) :: (13, .tuple []) :: (12, .tuple []) :: (11, .tuple []) :: (10, .bool true) :: E1)
      refine ok_run 6 (p' := g14p2) (env' := E7) (H' := (mkH [⟨[.int .i64 0, .str [], .int .i64 0], 0, false⟩])) (by kernel_rfl) ?_
      refine ok_keep [0, 1, 4, 15] (env' := [(0, .str a0), (1, .int .i64 a1), (4, .ptr 0 3 0), (15, .bool true)]) (by kernel_rfl) ?_
      exact hj2 true
    · let E8 : Env := ((15, .bool (decide ((a0.length : Int) ≤ a1))) :: (14, .bool (decide ((a0.length : Int) ≤ a1))) :: (13, .int .i64 (a0.length : Int)) :: (12, .str a0) :: (11, .int .i64 a1) :: (10, .bool false) :: E1)
      refine ok_run 6 (p' := g14p2) (env' := E8) (H' := (mkH [⟨[.int .i64 0, .str [], .int .i64 0], 0, false⟩])) (by kernel_rfl) ?_
      refine ok_keep [0, 1, 4, 15] (env' := [(0, .str a0), (1, .int .i64 a1), (4, .ptr 0 3 0), (15, .bool (decide ((a0.length : Int) ≤ a1)))]) (by kernel_rfl) ?_
      exact hj2 (decide ((a0.length : Int) ≤ a1))
end Go.Proofs.Ytokcjgjgojlhbaa.Am
