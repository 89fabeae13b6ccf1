/- Function 34, plain, and that the program computes it. Printed by gen.py. -/
import Derived.Test.YtokcjgjgojlhbaaTy
import Derived.Test.YtokcjgjgojlhbaaG51
set_option maxRecDepth 100000
set_option linter.unusedVariables false
namespace Go.Proofs.Ytokcjgjgojlhbaa.Am
open Go

/-! 34 galley/scan.quoted -/
noncomputable def X34 : Fx Int := ⟨Try.prog, cx, Try.f34, fun r => .int .i64 r, 0, fun _ => H0, cxTi, cxOrd⟩
noncomputable def g34p0 : Pt := nav [0] (bodyAt Try.f34)
noncomputable def g34p1 : Pt := nav [0, 0, 0, 0] g34p0
noncomputable def g34p2 : Pt := nav [0, 0, 0, 0, 0] g34p1
noncomputable def g34p3 : Pt := nav [0, 0, 0, 0, 0] g34p2
noncomputable def g34p4 : Pt := nav [0, 0] g34p3
noncomputable def g34p5 : Pt := nav [1, 0] g34p4
noncomputable def g34p6 : Pt := nav [2, 0] g34p4
noncomputable def g34p8 : Pt := nav [0] g34p6
noncomputable def g34p9 : Pt := nav [1, 0] g34p8
noncomputable def g34p10 : Pt := nav [2, 0] g34p8
noncomputable def g34p11 : Pt := nav [0, 0] g34p10
noncomputable def g34p12 : Pt := nav [1, 0] g34p11
noncomputable def g34p13 : Pt := nav [2, 0, 0] g34p11
noncomputable def g34p14 : Pt := nav [0, 0, 0] g34p12
noncomputable def g34p15 : Pt := nav [0, 0, 0] g34p14
noncomputable def g34p16 : Pt := nav [0, 0] g34p15
noncomputable def g34p17 : Pt := nav [1, 0] g34p16
noncomputable def g34_l4 (k : Nat)  (a0 : (List Nat)) (n : Nat) : Int → Option Int :=
  Nat.rec (motive := fun _ => Int → Option Int) (fun _ => none) (fun _ ih => fun (y4_0 : Int) => (g51 k a0 y4_0).bind fun x0_2 => if (decide (x0_2 = 0)) then (some (0 : Int)) else ((nthS a0 y4_0).bind fun x1_2 => (nthS a0 0).bind fun x1_4 => if (decide (x1_2 = x1_4)) then (some (fwrap .i64 (y4_0 + 1))) else ((nthS a0 y4_0).bind fun x2_2 => jn (fun (z5 : Int × Int) => ih (fwrap .i64 (z5.1 + z5.2))) (fun j5 => if (decide (x2_2 = 92)) then ((g51 k a0 (fwrap .i64 (y4_0 + 1))).bind fun x3_2 => if (decide (x3_2 = 0)) then (some (0 : Int)) else (j5 (fwrap .i64 (y4_0 + 1), x3_2))) else (j5 (y4_0, x0_2)))))) n
theorem g34_l4_s (k : Nat)  (a0 : (List Nat)) (n : Nat) (y4_0 : Int) : g34_l4 k a0 (n + 1) y4_0 = ((g51 k a0 y4_0).bind fun x0_2 => if (decide (x0_2 = 0)) then (some (0 : Int)) else ((nthS a0 y4_0).bind fun x1_2 => (nthS a0 0).bind fun x1_4 => if (decide (x1_2 = x1_4)) then (some (fwrap .i64 (y4_0 + 1))) else ((nthS a0 y4_0).bind fun x2_2 => jn (fun (z5 : Int × Int) => (g34_l4 k a0 n) (fwrap .i64 (z5.1 + z5.2))) (fun j5 => if (decide (x2_2 = 92)) then ((g51 k a0 (fwrap .i64 (y4_0 + 1))).bind fun x3_2 => if (decide (x3_2 = 0)) then (some (0 : Int)) else (j5 (fwrap .i64 (y4_0 + 1), x3_2))) else (j5 (y4_0, x0_2)))))) := rfl
theorem g34_l4_ok (k : Nat)  (a0 : (List Nat))  : ∀ (n : Nat) (y4_0 : Int), Ok X34 g34p2 [(0, .str a0), (3, .int .i64 y4_0)] (mkH []) (g34_l4 k a0 n y4_0)
  | 0, _ => ok_none
  | n + 1, y4_0 => by
    have ih := g34_l4_ok k a0 n
    rw [g34_l4_s]
    refine ok_run 3 (p' := (atN 2 (ctl1 g34p2))) (env' := [(6, .int .i64 y4_0), (5, .str a0), (0, .str a0), (3, .int .i64 y4_0)]) (H' := (mkH [])) (by kernel_rfl) ?_
    refine ok_call (fun (x0_2 : Int) => .int .i64 x0_2) (atN 3 (ctl1 g34p2)) (fun x0_2 => [(7, .int .i64 x0_2), (6, .int .i64 y4_0), (5, .str a0), (0, .str a0), (3, .int .i64 y4_0)]) (fi := 51) (args := [.str a0, .int .i64 y4_0]) (by kernel_rfl) (by kernel_rfl) (fun _ => by kernel_rfl) (fun r h => g51_ok k a0 y4_0 r h) (fun _ => by kernel_rfl) (fun x0_2 hx0_2 => ?_)
    let E1 : Env := [(8, .bool (decide (x0_2 = 0))), (10, .bool (decide (x0_2 = 0))), (9, .int .i64 x0_2), (4, .int .i64 x0_2), (7, .int .i64 x0_2), (6, .int .i64 y4_0), (5, .str a0), (0, .str a0), (3, .int .i64 y4_0)]
    refine ok_run 10 (p' := g34p4) (env' := E1) (H' := (mkH [])) (by kernel_rfl) ?_
    refine ok_split 8 (b := decide (x0_2 = 0)) (by kernel_rfl) (fun hb => ?_) (fun hb => ?_)
    · refine ok_run 6 (p' := .fin) (env' := ((2, .int .i64 0) :: (8, .bool true) :: E1)) (H' := (mkH [])) (by kernel_rfl) ?_
      exact ok_ret (r := (0 : Int)) (xs := [.int .i64 0]) (v := .int .i64 0) (by kernel_rfl) (by kernel_rfl) (by kernel_rfl) (.pures (by kernel_rfl)) (by kernel_rfl)
    · refine ok_run 2 (p' := g34p6) (env' := ((8, .bool false) :: E1)) (H' := (mkH [])) (by kernel_rfl) ?_
      refine ok_bind (fun x1_2 hx1_2 => ?_)
      refine ok_bind (fun x1_4 hx1_4 => ?_)
      let E2 : Env := [(13, .int .i64 y4_0), (12, .str a0), (8, .bool false), (8, .bool (decide (x0_2 = 0))), (10, .bool (decide (x0_2 = 0))), (9, .int .i64 x0_2), (4, .int .i64 x0_2), (7, .int .i64 x0_2), (6, .int .i64 y4_0), (5, .str a0), (0, .str a0), (3, .int .i64 y4_0)]
      let E3 : Env := ((11, .bool (decide (x1_2 = x1_4))) :: (17, .bool (decide (x1_2 = x1_4))) :: (16, .int .u8 x1_4) :: (15, .str a0) :: (14, .int .u8 x1_2) :: E2)
      refine ok_draw (p' := nav [0] g34p6) (env' := E3) (H' := (mkH [])) (hs := []) [(0, 0, 0), (0, 0, 0), (3, 0, 0), (0, 0, 0), (8, 0, 0), (31, 0, 0), (63, 0, 0)] (by kernel_rfl) (by kernel_rfl) (by kernel_rfl) (opsD_run 2 (l' := (opsAt g34p6).toList.drop 2) (env' := E2) (H' := (mkH [])) (hs := []) (by kernel_rfl) (opsD_chk (l' := (opsAt g34p6).toList.drop 3) (env' := ((14, .int .u8 x1_2) :: E2)) (hs := []) (x := x1_2) (fun (x1_2 : Int) => (.int .u8 x1_2, (mkH []))) (idxH (by kernel_rfl)) hx1_2 (by kernel_rfl) (opsD_run 1 (l' := (opsAt g34p6).toList.drop 4) (env' := ((15, .str a0) :: (14, .int .u8 x1_2) :: E2)) (H' := (mkH [])) (hs := []) (by kernel_rfl) (opsD_chk (l' := (opsAt g34p6).toList.drop 5) (env' := ((16, .int .u8 x1_4) :: (15, .str a0) :: (14, .int .u8 x1_2) :: E2)) (hs := []) (x := x1_4) (fun (x1_4 : Int) => (.int .u8 x1_4, (mkH []))) (idxH (by kernel_rfl)) hx1_4 (by kernel_rfl) (opsD_run 2 (l' := (opsAt g34p6).toList.drop 7) (env' := E3) (H' := (mkH [])) (hs := []) (by kernel_rfl) (.nil)))))) (by kernel_rfl) (by kernel_rfl) (by kernel_rfl) ?_
      refine ok_split 11 (b := decide (x1_2 = x1_4)) (by kernel_rfl) (fun hb => ?_) (fun hb => ?_)
      · refine ok_run 8 (p' := .fin) (env' := ((2, .int .i64 (fwrap .i64 (y4_0 + 1))) :: (19, .int .i64 (fwrap .i64 (y4_0 + 1))) :: (18, .int .i64 y4_0) :: (11, .bool true) :: E3)) (H' := (mkH [])) (by kernel_rfl) ?_
        exact ok_ret (r := (fwrap .i64 (y4_0 + 1))) (xs := [.int .i64 (fwrap .i64 (y4_0 + 1))]) (v := .int .i64 (fwrap .i64 (y4_0 + 1))) (by kernel_rfl) (by kernel_rfl) (by kernel_rfl) (.pures (by kernel_rfl)) (by kernel_rfl)
      · refine ok_run 5 (p' := (atN 2 (ctl1 g34p10))) (env' := ((22, .int .i64 y4_0) :: (21, .str a0) :: (11, .bool false) :: E3)) (H' := (mkH [])) (by kernel_rfl) ?_
        refine ok_chk (fun (x2_2 : Int) => (.int .u8 x2_2, (mkH []))) (atN 3 (ctl1 g34p10)) (fun x2_2 => ((23, .int .u8 x2_2) :: (22, .int .i64 y4_0) :: (21, .str a0) :: (11, .bool false) :: E3)) (idxH (by kernel_rfl)) (fun _ => by kernel_rfl) (fun x2_2 hx2_2 => ?_)
        let E4 : Env := ((20, .bool (decide (x2_2 = 92))) :: (24, .bool (decide (x2_2 = 92))) :: (23, .int .u8 x2_2) :: (22, .int .i64 y4_0) :: (21, .str a0) :: (11, .bool false) :: E3)
        refine ok_run 3 (p' := g34p11) (env' := E4) (H' := (mkH [])) (by kernel_rfl) ?_
        refine ok_keep [0, 3, 4, 20] (env' := [(0, .str a0), (3, .int .i64 y4_0), (4, .int .i64 x0_2), (20, .bool (decide (x2_2 = 92)))]) (by kernel_rfl) ?_
        refine ok_jn (f := fun (z5 : Int × Int) => (g34_l4 k a0 n) (fwrap .i64 (z5.1 + z5.2))) g34p13 (fun (z5 : Int × Int) => [(0, .str a0), (3, .int .i64 z5.1), (4, .int .i64 z5.2)]) (fun (z5 : Int × Int) => (mkH [])) (fun z5 => ?_) (fun j5 hj5 => ?_)
        · let E5 : Env := [(3, .int .i64 (fwrap .i64 (z5.1 + z5.2))), (34, .int .i64 (fwrap .i64 (z5.1 + z5.2))), (33, .int .i64 z5.2), (32, .int .i64 z5.1), (0, .str a0), (3, .int .i64 z5.1), (4, .int .i64 z5.2)]
          refine ok_run 10 (p' := g34p2) (env' := E5) (H' := (mkH [])) (by kernel_rfl) ?_
          refine ok_keep [0, 3] (env' := [(0, .str a0), (3, .int .i64 (fwrap .i64 (z5.1 + z5.2)))]) (by kernel_rfl) ?_
          exact ih (fwrap .i64 (z5.1 + z5.2))
        · refine ok_split 20 (b := decide (x2_2 = 92)) (by kernel_rfl) (fun hb => ?_) (fun hb => ?_)
          · let E6 : Env := [(28, .int .i64 (fwrap .i64 (y4_0 + 1))), (27, .str a0), (3, .int .i64 (fwrap .i64 (y4_0 + 1))), (26, .int .i64 (fwrap .i64 (y4_0 + 1))), (25, .int .i64 y4_0), (20, .bool true), (0, .str a0), (3, .int .i64 y4_0), (4, .int .i64 x0_2), (20, .bool (decide (x2_2 = 92)))]
            refine ok_run 11 (p' := (atN 2 (ctl1 g34p14))) (env' := E6) (H' := (mkH [])) (by kernel_rfl) ?_
            refine ok_call (fun (x3_2 : Int) => .int .i64 x3_2) (atN 3 (ctl1 g34p14)) (fun x3_2 => ((29, .int .i64 x3_2) :: E6)) (fi := 51) (args := [.str a0, .int .i64 (fwrap .i64 (y4_0 + 1))]) (by kernel_rfl) (by kernel_rfl) (fun _ => by kernel_rfl) (fun r h => g51_ok k a0 (fwrap .i64 (y4_0 + 1)) r h) (fun _ => by kernel_rfl) (fun x3_2 hx3_2 => ?_)
            refine ok_run 3 (p' := g34p15) (env' := ((4, .int .i64 x3_2) :: (29, .int .i64 x3_2) :: E6)) (H' := (mkH [])) (by kernel_rfl) ?_
            refine ok_keep [0, 3, 4] (env' := [(0, .str a0), (3, .int .i64 (fwrap .i64 (y4_0 + 1))), (4, .int .i64 x3_2)]) (by kernel_rfl) ?_
            let E7 : Env := [(31, .bool (decide (x3_2 = 0))), (30, .int .i64 x3_2), (0, .str a0), (3, .int .i64 (fwrap .i64 (y4_0 + 1))), (4, .int .i64 x3_2)]
            refine ok_run 4 (p' := g34p16) (env' := E7) (H' := (mkH [])) (by kernel_rfl) ?_
            refine ok_split 31 (b := decide (x3_2 = 0)) (by kernel_rfl) (fun hb => ?_) (fun hb => ?_)
            · refine ok_run 6 (p' := .fin) (env' := ((2, .int .i64 0) :: (31, .bool true) :: E7)) (H' := (mkH [])) (by kernel_rfl) ?_
              exact ok_ret (r := (0 : Int)) (xs := [.int .i64 0]) (v := .int .i64 0) (by kernel_rfl) (by kernel_rfl) (by kernel_rfl) (.pures (by kernel_rfl)) (by kernel_rfl)
            · refine ok_run 3 (p' := g34p13) (env' := ((31, .bool false) :: E7)) (H' := (mkH [])) (by kernel_rfl) ?_
              refine ok_keep [0, 3, 4] (env' := [(0, .str a0), (3, .int .i64 (fwrap .i64 (y4_0 + 1))), (4, .int .i64 x3_2)]) (by kernel_rfl) ?_
              exact hj5 (fwrap .i64 (y4_0 + 1), x3_2)
          · let E8 : Env := [(20, .bool false), (0, .str a0), (3, .int .i64 y4_0), (4, .int .i64 x0_2), (20, .bool (decide (x2_2 = 92)))]
            refine ok_run 3 (p' := g34p13) (env' := E8) (H' := (mkH [])) (by kernel_rfl) ?_
            refine ok_keep [0, 3, 4] (env' := [(0, .str a0), (3, .int .i64 y4_0), (4, .int .i64 x0_2)]) (by kernel_rfl) ?_
            exact hj5 (y4_0, x0_2)
noncomputable def g34 (k : Nat) (a0 : (List Nat)) : Option Int :=
  g34_l4 k a0 k 1
theorem g34_ok (k : Nat) (a0 : (List Nat)) (r : Int) (h : g34 k a0 = some r) : PureOk Try.prog 34 [.str a0] (.int .i64 r) := by
  refine pure_of X34 (fun _ => rfl) Try.func34 (by decide +kernel) (by kernel_rfl) (t := g34 k a0) ?_ h
  unfold g34
  refine ok_env (env' := [(0, .str a0)]) (by kernel_rfl) ?_
  refine ok_run 12 (p' := g34p2) (env' := [(3, .int .i64 1), (2, .int .i64 0), (0, .str a0)]) (H' := (mkH [])) (by kernel_rfl) ?_
  refine ok_keep [0, 3] (env' := [(0, .str a0), (3, .int .i64 1)]) (by kernel_rfl) ?_
  exact (g34_l4_ok k a0 k) 1
end Go.Proofs.Ytokcjgjgojlhbaa.Am
