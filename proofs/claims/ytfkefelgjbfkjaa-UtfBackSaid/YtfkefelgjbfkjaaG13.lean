/- Function 13, plain, and that the program computes it. Printed by gen.py. -/
import Derived.Test.YtfkefelgjbfkjaaTy
import Derived.Test.YtfkefelgjbfkjaaG31
import Derived.Test.YtfkefelgjbfkjaaG32
import Derived.Test.YtfkefelgjbfkjaaG33
set_option maxRecDepth 100000
set_option linter.unusedVariables false
namespace Go.Proofs.Ytfkefelgjbfkjaa.Am
open Go

/-! 13 galley/utf.Next -/
noncomputable def X13 : Fx (Int × Int) := ⟨Try.prog, cx, Try.f13, fun r => .tuple [.int .i64 r.1, .int .i64 r.2], 0, fun _ => H0, cxTi, cxOrd⟩
noncomputable def g13p0 : Pt := nav [0] (bodyAt Try.f13)
noncomputable def g13p1 : Pt := nav [0, 0, 0, 0] g13p0
noncomputable def g13p2 : Pt := nav [0, 0] g13p1
noncomputable def g13p3 : Pt := nav [1, 0] g13p2
noncomputable def g13p4 : Pt := nav [2, 0, 0] g13p2
noncomputable def g13p6 : Pt := nav [0, 0, 0, 0] g13p4
noncomputable def g13p7 : Pt := nav [0, 0] g13p6
noncomputable def g13p8 : Pt := nav [1, 0] g13p7
noncomputable def g13p9 : Pt := nav [2, 0, 0, 0] g13p7
noncomputable def g13p10 : Pt := nav [0, 0, 0, 0] g13p9
noncomputable def g13p11 : Pt := nav [0, 0, 0] g13p10
noncomputable def g13p12 : Pt := nav [0, 0] g13p11
noncomputable def g13p13 : Pt := nav [1, 0, 0, 0, 0] g13p12
noncomputable def g13p14 : Pt := nav [2, 0, 0, 0] g13p12
noncomputable def g13p15 : Pt := nav [0, 0, 0, 0] g13p13
noncomputable def g13p16 : Pt := nav [0, 0] g13p14
noncomputable def g13p17 : Pt := nav [0, 0] g13p15
noncomputable def g13p18 : Pt := nav [1, 0] g13p16
noncomputable def g13p19 : Pt := nav [2, 0, 0] g13p16
noncomputable def g13p20 : Pt := nav [1, 0] g13p17
noncomputable def g13p21 : Pt := nav [2, 0] g13p17
noncomputable def g13p22 : Pt := nav [0, 0] g13p21
noncomputable def g13_l5 (k : Nat)  (a0 : (List Nat)) (a1 : Int) (x0_3 : (Int × Int)) (n : Nat) : Int → Int → Option (Int × Int) :=
  Nat.rec (motive := fun _ => Int → Int → Option (Int × Int)) (fun _ _ => none) (fun _ ih => fun (y5_0 : Int) (y5_1 : Int) => if (decide (y5_1 < x0_3.1)) then ((nthS a0 (fwrap .i64 (a1 + y5_1))).bind fun x1_4 => if (!decide (shrC x1_4 6 = 2)) then (some (((-1) : Int), (1 : Int))) else (ih (orI .i64 (shlC .i64 y5_0 6) (fwrap .i64 (andI .u8 x1_4 63))) (fwrap .i64 (y5_1 + 1)))) else ((g32 k x0_3.1).bind fun x2_2 => jn (fun (z6 : Bool × Int) => if z6.1 then (some (((-1) : Int), (1 : Int))) else (some (z6.2, x0_3.1))) (fun j6 => if (decide (y5_0 < x2_2)) then (j6 (true, y5_0)) else ((g33 k y5_0).bind fun x2_6 => j6 (!x2_6, y5_0))))) n
theorem g13_l5_s (k : Nat)  (a0 : (List Nat)) (a1 : Int) (x0_3 : (Int × Int)) (n : Nat) (y5_0 : Int) (y5_1 : Int) : g13_l5 k a0 a1 x0_3 (n + 1) y5_0 y5_1 = (if (decide (y5_1 < x0_3.1)) then ((nthS a0 (fwrap .i64 (a1 + y5_1))).bind fun x1_4 => if (!decide (shrC x1_4 6 = 2)) then (some (((-1) : Int), (1 : Int))) else ((g13_l5 k a0 a1 x0_3 n) (orI .i64 (shlC .i64 y5_0 6) (fwrap .i64 (andI .u8 x1_4 63))) (fwrap .i64 (y5_1 + 1)))) else ((g32 k x0_3.1).bind fun x2_2 => jn (fun (z6 : Bool × Int) => if z6.1 then (some (((-1) : Int), (1 : Int))) else (some (z6.2, x0_3.1))) (fun j6 => if (decide (y5_0 < x2_2)) then (j6 (true, y5_0)) else ((g33 k y5_0).bind fun x2_6 => j6 (!x2_6, y5_0))))) := rfl
theorem g13_l5_ok (k : Nat)  (a0 : (List Nat)) (a1 : Int) (x0_3 : (Int × Int))  : ∀ (n : Nat) (y5_0 : Int) (y5_1 : Int), Ok X13 g13p10 [(0, .str a0), (1, .int .i64 a1), (6, .int .i64 x0_3.1), (7, .int .i64 y5_0), (8, .int .i64 y5_1)] (mkH []) (g13_l5 k a0 a1 x0_3 n y5_0 y5_1)
  | 0, _, _ => ok_none
  | n + 1, y5_0, y5_1 => by
    have ih := g13_l5_ok k a0 a1 x0_3 n
    rw [g13_l5_s]
    refine ok_ent (p' := nav [0] g13p10) (by kernel_rfl) ?_
    let E8 : Env := [(37, .bool (decide (y5_1 < x0_3.1))), (36, .int .i64 x0_3.1), (35, .int .i64 y5_1), (0, .str a0), (1, .int .i64 a1), (6, .int .i64 x0_3.1), (7, .int .i64 y5_0), (8, .int .i64 y5_1)]
    refine ok_run 7 (p' := g13p12) (env' := E8) (H' := (mkH [])) (by kernel_rfl) ?_
    refine ok_split 37 (b := decide (y5_1 < x0_3.1)) (by kernel_rfl) (fun hb => ?_) (fun hb => ?_)
    · let E9 : Env := ((43, .int .i64 (fwrap .i64 (a1 + y5_1))) :: (42, .int .i64 y5_1) :: (41, .int .i64 a1) :: (40, .str a0) :: (37, .bool true) :: E8)
      refine ok_run 10 (p' := (atN 4 (ctl1 g13p13))) (env' := E9) (H' := (mkH [])) (by kernel_rfl) ?_
      refine ok_chk (fun (x1_4 : Int) => (.int .u8 x1_4, (mkH []))) (atN 5 (ctl1 g13p13)) (fun x1_4 => ((44, .int .u8 x1_4) :: E9)) (idxH (by kernel_rfl)) (fun _ => by kernel_rfl) (fun x1_4 hx1_4 => ?_)
      refine ok_run 4 (p' := g13p15) (env' := ((9, .int .u8 x1_4) :: (44, .int .u8 x1_4) :: E9)) (H' := (mkH [])) (by kernel_rfl) ?_
      refine ok_keep [0, 1, 6, 7, 8, 9] (env' := [(0, .str a0), (1, .int .i64 a1), (6, .int .i64 x0_3.1), (7, .int .i64 y5_0), (8, .int .i64 y5_1), (9, .int .u8 x1_4)]) (by kernel_rfl) ?_
      let E10 : Env := [(47, .bool (!decide (shrC x1_4 6 = 2))), (46, .int .u8 (shrC x1_4 6)), (45, .int .u8 x1_4), (0, .str a0), (1, .int .i64 a1), (6, .int .i64 x0_3.1), (7, .int .i64 y5_0), (8, .int .i64 y5_1), (9, .int .u8 x1_4)]
      refine ok_run 5 (p' := g13p17) (env' := E10) (H' := (mkH [])) (by kernel_rfl) ?_
      refine ok_split 47 (b := !decide (shrC x1_4 6 = 2)) (by kernel_rfl) (fun hb => ?_) (fun hb => ?_)
      · refine ok_run 7 (p' := .fin) (env' := ((5, .int .i64 1) :: (4, .int .i64 (-1)) :: (47, .bool true) :: E10)) (H' := (mkH [])) (by kernel_rfl) ?_
        exact ok_ret (r := (((-1) : Int), (1 : Int))) (xs := [.int .i64 (-1), .int .i64 1]) (v := .tuple [.int .i64 (-1), .int .i64 1]) (by kernel_rfl) (by kernel_rfl) (by kernel_rfl) (.pures (by kernel_rfl)) (by kernel_rfl)
      · let E11 : Env := ((7, .int .i64 (orI .i64 (shlC .i64 y5_0 6) (fwrap .i64 (andI .u8 x1_4 63)))) :: (53, .int .i64 (orI .i64 (shlC .i64 y5_0 6) (fwrap .i64 (andI .u8 x1_4 63)))) :: (52, .int .i64 (fwrap .i64 (andI .u8 x1_4 63))) :: (51, .int .u8 (andI .u8 x1_4 63)) :: (50, .int .u8 x1_4) :: (49, .int .i64 (shlC .i64 y5_0 6)) :: (48, .int .i64 y5_0) :: (47, .bool false) :: E10)
        refine ok_run 11 (p' := g13p22) (env' := E11) (H' := (mkH [])) (by kernel_rfl) ?_
        refine ok_keep [0, 1, 6, 7, 8] (env' := [(0, .str a0), (1, .int .i64 a1), (6, .int .i64 x0_3.1), (7, .int .i64 (orI .i64 (shlC .i64 y5_0 6) (fwrap .i64 (andI .u8 x1_4 63)))), (8, .int .i64 y5_1)]) (by kernel_rfl) ?_
        let E12 : Env := [(8, .int .i64 (fwrap .i64 (y5_1 + 1))), (39, .int .i64 (fwrap .i64 (y5_1 + 1))), (38, .int .i64 y5_1), (0, .str a0), (1, .int .i64 a1), (6, .int .i64 x0_3.1), (7, .int .i64 (orI .i64 (shlC .i64 y5_0 6) (fwrap .i64 (andI .u8 x1_4 63)))), (8, .int .i64 y5_1)]
        refine ok_run 5 (p' := g13p10) (env' := E12) (H' := (mkH [])) (by kernel_rfl) ?_
        refine ok_keep [0, 1, 6, 7, 8] (env' := [(0, .str a0), (1, .int .i64 a1), (6, .int .i64 x0_3.1), (7, .int .i64 (orI .i64 (shlC .i64 y5_0 6) (fwrap .i64 (andI .u8 x1_4 63)))), (8, .int .i64 (fwrap .i64 (y5_1 + 1)))]) (by kernel_rfl) ?_
        exact ih (orI .i64 (shlC .i64 y5_0 6) (fwrap .i64 (andI .u8 x1_4 63))) (fwrap .i64 (y5_1 + 1))
    · refine ok_run 7 (p' := (atN 2 (ctl1 g13p14))) (env' := ((55, .int .i64 x0_3.1) :: (54, .int .i64 y5_0) :: (37, .bool false) :: E8)) (H' := (mkH [])) (by kernel_rfl) ?_
      refine ok_call (fun (x2_2 : Int) => .int .i64 x2_2) (atN 3 (ctl1 g13p14)) (fun x2_2 => ((56, .int .i64 x2_2) :: (55, .int .i64 x0_3.1) :: (54, .int .i64 y5_0) :: (37, .bool false) :: E8)) (fi := 32) (args := [.int .i64 x0_3.1]) (by kernel_rfl) (by kernel_rfl) (fun _ => by kernel_rfl) (fun r h => g32_ok k x0_3.1 r h) (fun _ => by kernel_rfl) (fun x2_2 hx2_2 => ?_)
      let E13 : Env := ((58, .bool (decide (y5_0 < x2_2))) :: (57, .bool (decide (y5_0 < x2_2))) :: (56, .int .i64 x2_2) :: (55, .int .i64 x0_3.1) :: (54, .int .i64 y5_0) :: (37, .bool false) :: E8)
      refine ok_run 2 (p' := (atN 5 (ctl1 g13p14))) (env' := E13) (H' := (mkH [])) (by kernel_rfl) ?_
      refine ok_jn (f := fun (z6 : Bool × Int) => if z6.1 then (some (((-1) : Int), (1 : Int))) else (some (z6.2, x0_3.1))) g13p16 (fun (z6 : Bool × Int) => [(6, .int .i64 x0_3.1), (7, .int .i64 z6.2), (62, .bool z6.1)]) (fun (z6 : Bool × Int) => (mkH [])) (fun z6 => ?_) (fun j6 hj6 => ?_)
      · refine ok_split 62 (b := z6.1) (by kernel_rfl) (fun hb => ?_) (fun hb => ?_)
        · let E14 : Env := [(5, .int .i64 1), (4, .int .i64 (-1)), (62, .bool true), (6, .int .i64 x0_3.1), (7, .int .i64 z6.2), (62, .bool z6.1)]
          refine ok_run 7 (p' := .fin) (env' := E14) (H' := (mkH [])) (by kernel_rfl) ?_
          exact ok_ret (r := (((-1) : Int), (1 : Int))) (xs := [.int .i64 (-1), .int .i64 1]) (v := .tuple [.int .i64 (-1), .int .i64 1]) (by kernel_rfl) (by kernel_rfl) (by kernel_rfl) (.pures (by kernel_rfl)) (by kernel_rfl)
        · let E15 : Env := [(5, .int .i64 x0_3.1), (4, .int .i64 z6.2), (64, .int .i64 x0_3.1), (63, .int .i64 z6.2), (62, .bool false), (6, .int .i64 x0_3.1), (7, .int .i64 z6.2), (62, .bool z6.1)]
          refine ok_run 10 (p' := .fin) (env' := E15) (H' := (mkH [])) (by kernel_rfl) ?_
          exact ok_ret (r := (z6.2, x0_3.1)) (xs := [.int .i64 z6.2, .int .i64 x0_3.1]) (v := .tuple [.int .i64 z6.2, .int .i64 x0_3.1]) (by kernel_rfl) (by kernel_rfl) (by kernel_rfl) (.pures (by kernel_rfl)) (by kernel_rfl)
      · refine ok_split 58 (b := decide (y5_0 < x2_2)) (by kernel_rfl) (fun hb => ?_) (fun hb => ?_)
        · let E16 : Env := ((62, .bool true) :: (61, .tuple []) :: (60, .tuple []) :: (59, .tuple []) :: (58, .bool true) :: E13)
          refine ok_run 5 (p' := g13p16) (env' := E16) (H' := (mkH [])) (by kernel_rfl) ?_
          refine ok_keep [6, 7, 62] (env' := [(6, .int .i64 x0_3.1), (7, .int .i64 y5_0), (62, .bool true)]) (by kernel_rfl) ?_
          exact hj6 (true, y5_0)
        · refine ok_run 1 (p' := (atN 6 (ctl1 g13p14))) (env' := ((59, .int .i64 y5_0) :: (58, .bool false) :: E13)) (H' := (mkH [])) (by kernel_rfl) ?_
          refine ok_call (fun (x2_6 : Bool) => .bool x2_6) (atN 7 (ctl1 g13p14)) (fun x2_6 => ((60, .bool x2_6) :: (59, .int .i64 y5_0) :: (58, .bool false) :: E13)) (fi := 33) (args := [.int .i64 y5_0]) (by kernel_rfl) (by kernel_rfl) (fun _ => by kernel_rfl) (fun r h => g33_ok k y5_0 r h) (fun _ => by kernel_rfl) (fun x2_6 hx2_6 => ?_)
          let E17 : Env := ((62, .bool (!x2_6)) :: (61, .bool (!x2_6)) :: (60, .bool x2_6) :: (59, .int .i64 y5_0) :: (58, .bool false) :: E13)
          refine ok_run 3 (p' := g13p16) (env' := E17) (H' := (mkH [])) (by kernel_rfl) ?_
          refine ok_keep [6, 7, 62] (env' := [(6, .int .i64 x0_3.1), (7, .int .i64 y5_0), (62, .bool (!x2_6))]) (by kernel_rfl) ?_
          exact hj6 (!x2_6, y5_0)
noncomputable def g13 (k : Nat) (a0 : (List Nat)) (a1 : Int) : Option (Int × Int) :=
  jn (fun (z3 : Bool) => if z3 then (some ((0 : Int), (0 : Int))) else ((nthS a0 a1).bind fun x0_2 => (g31 k x0_2).bind fun x0_3 => jn (fun (z4 : Bool) => if z4 then (some (((-1) : Int), (1 : Int))) else (g13_l5 k a0 a1 x0_3 k x0_3.2 1)) (fun j4 => if (decide (x0_3.1 = 0)) then (j4 true) else (j4 (decide (fwrap .i64 ((a0.length : Int) - a1) < x0_3.1)))))) (fun j3 => if (decide (a1 < 0)) then (j3 true) else (j3 (decide ((a0.length : Int) ≤ a1))))
theorem g13_ok (k : Nat) (a0 : (List Nat)) (a1 : Int) (r : (Int × Int)) (h : g13 k a0 a1 = some r) : PureOk Try.prog 13 [.str a0, .int .i64 a1] (.tuple [.int .i64 r.1, .int .i64 r.2]) := by
  refine pure_of X13 (fun _ => rfl) Try.func13 (by decide +kernel) (by kernel_rfl) (t := g13 k a0 a1) ?_ h
  unfold g13
  refine ok_env (env' := [(0, .str a0), (1, .int .i64 a1)]) (by kernel_rfl) ?_
  let E1 : Env := [(12, .bool (decide (a1 < 0))), (11, .bool (decide (a1 < 0))), (10, .int .i64 a1), (5, .int .i64 0), (4, .int .i64 0), (0, .str a0), (1, .int .i64 a1)]
  refine ok_run 11 (p' := (atN 3 (ctl1 g13p1))) (env' := E1) (H' := (mkH [])) (by kernel_rfl) ?_
  refine ok_jn (f := fun (z3 : Bool) => if z3 then (some ((0 : Int), (0 : Int))) else ((nthS a0 a1).bind fun x0_2 => (g31 k x0_2).bind fun x0_3 => jn (fun (z4 : Bool) => if z4 then (some (((-1) : Int), (1 : Int))) else (g13_l5 k a0 a1 x0_3 k x0_3.2 1)) (fun j4 => if (decide (x0_3.1 = 0)) then (j4 true) else (j4 (decide (fwrap .i64 ((a0.length : Int) - a1) < x0_3.1)))))) g13p2 (fun (z3 : Bool) => [(0, .str a0), (1, .int .i64 a1), (17, .bool z3)]) (fun (z3 : Bool) => (mkH [])) (fun z3 => ?_) (fun j3 hj3 => ?_)
  · refine ok_split 17 (b := z3) (by kernel_rfl) (fun hb => ?_) (fun hb => ?_)
    · let E2 : Env := [(5, .int .i64 0), (4, .int .i64 0), (17, .bool true), (0, .str a0), (1, .int .i64 a1), (17, .bool z3)]
      refine ok_run 7 (p' := .fin) (env' := E2) (H' := (mkH [])) (by kernel_rfl) ?_
      exact ok_ret (r := ((0 : Int), (0 : Int))) (xs := [.int .i64 0, .int .i64 0]) (v := .tuple [.int .i64 0, .int .i64 0]) (by kernel_rfl) (by kernel_rfl) (by kernel_rfl) (.pures (by kernel_rfl)) (by kernel_rfl)
    · let E3 : Env := [(20, .int .i64 a1), (19, .str a0), (17, .bool false), (0, .str a0), (1, .int .i64 a1), (17, .bool z3)]
      refine ok_run 6 (p' := (atN 2 (ctl1 g13p4))) (env' := E3) (H' := (mkH [])) (by kernel_rfl) ?_
      refine ok_chk (fun (x0_2 : Int) => (.int .u8 x0_2, (mkH []))) (atN 3 (ctl1 g13p4)) (fun x0_2 => ((21, .int .u8 x0_2) :: E3)) (idxH (by kernel_rfl)) (fun _ => by kernel_rfl) (fun x0_2 hx0_2 => ?_)
      refine ok_call (fun (x0_3 : (Int × Int)) => .tuple [.int .i64 x0_3.1, .int .i64 x0_3.2]) (atN 4 (ctl1 g13p4)) (fun x0_3 => ((22, .tuple [.int .i64 x0_3.1, .int .i64 x0_3.2]) :: (21, .int .u8 x0_2) :: E3)) (fi := 31) (args := [.int .u8 x0_2]) (by kernel_rfl) (by kernel_rfl) (fun _ => by kernel_rfl) (fun r h => g31_ok k x0_2 r h) (fun _ => by kernel_rfl) (fun x0_3 hx0_3 => ?_)
      let E4 : Env := ((7, .int .i64 x0_3.2) :: (6, .int .i64 x0_3.1) :: (24, .int .i64 x0_3.2) :: (23, .int .i64 x0_3.1) :: (18, .tuple [.int .i64 x0_3.1, .int .i64 x0_3.2]) :: (22, .tuple [.int .i64 x0_3.1, .int .i64 x0_3.2]) :: (21, .int .u8 x0_2) :: E3)
      refine ok_run 8 (p' := g13p6) (env' := E4) (H' := (mkH [])) (by kernel_rfl) ?_
      refine ok_keep [0, 1, 6, 7] (env' := [(0, .str a0), (1, .int .i64 a1), (6, .int .i64 x0_3.1), (7, .int .i64 x0_3.2)]) (by kernel_rfl) ?_
      let E5 : Env := [(27, .bool (decide (x0_3.1 = 0))), (26, .bool (decide (x0_3.1 = 0))), (25, .int .i64 x0_3.1), (0, .str a0), (1, .int .i64 a1), (6, .int .i64 x0_3.1), (7, .int .i64 x0_3.2)]
      refine ok_run 4 (p' := (atN 3 (ctl1 g13p6))) (env' := E5) (H' := (mkH [])) (by kernel_rfl) ?_
      refine ok_jn (f := fun (z4 : Bool) => if z4 then (some (((-1) : Int), (1 : Int))) else (g13_l5 k a0 a1 x0_3 k x0_3.2 1)) g13p7 (fun (z4 : Bool) => [(0, .str a0), (1, .int .i64 a1), (6, .int .i64 x0_3.1), (7, .int .i64 x0_3.2), (34, .bool z4)]) (fun (z4 : Bool) => (mkH [])) (fun z4 => ?_) (fun j4 hj4 => ?_)
      · refine ok_split 34 (b := z4) (by kernel_rfl) (fun hb => ?_) (fun hb => ?_)
        · let E6 : Env := [(5, .int .i64 1), (4, .int .i64 (-1)), (34, .bool true), (0, .str a0), (1, .int .i64 a1), (6, .int .i64 x0_3.1), (7, .int .i64 x0_3.2), (34, .bool z4)]
          refine ok_run 7 (p' := .fin) (env' := E6) (H' := (mkH [])) (by kernel_rfl) ?_
          exact ok_ret (r := (((-1) : Int), (1 : Int))) (xs := [.int .i64 (-1), .int .i64 1]) (v := .tuple [.int .i64 (-1), .int .i64 1]) (by kernel_rfl) (by kernel_rfl) (by kernel_rfl) (.pures (by kernel_rfl)) (by kernel_rfl)
        · let E7 : Env := [(8, .int .i64 1), (34, .bool false), (0, .str a0), (1, .int .i64 a1), (6, .int .i64 x0_3.1), (7, .int .i64 x0_3.2), (34, .bool z4)]
          refine ok_run 9 (p' := g13p10) (env' := E7) (H' := (mkH [])) (by kernel_rfl) ?_
          refine ok_keep [0, 1, 6, 7, 8] (env' := [(0, .str a0), (1, .int .i64 a1), (6, .int .i64 x0_3.1), (7, .int .i64 x0_3.2), (8, .int .i64 1)]) (by kernel_rfl) ?_
          exact (g13_l5_ok k a0 a1 x0_3 k) x0_3.2 1
      · refine ok_split 27 (b := decide (x0_3.1 = 0)) (by kernel_rfl) (fun hb => ?_) (fun hb => ?_)
        · let E18 : Env := ((34, .bool true) :: (33, .tuple []) :: (32, .tuple []) :: (31, .tuple []) :: (30, .tuple []) :: (29, .tuple []) :: (28, .tuple []) :: (27, .bool true) :: E5)
          refine ok_run 8 (p' := g13p7) (env' := E18) (H' := (mkH [])) (by kernel_rfl) ?_
          refine ok_keep [0, 1, 6, 7, 34] (env' := [(0, .str a0), (1, .int .i64 a1), (6, .int .i64 x0_3.1), (7, .int .i64 x0_3.2), (34, .bool true)]) (by kernel_rfl) ?_
          exact hj4 true
        · let E19 : Env := ((34, .bool (decide (fwrap .i64 ((a0.length : Int) - a1) < x0_3.1))) :: (33, .bool (decide (fwrap .i64 ((a0.length : Int) - a1) < x0_3.1))) :: (32, .int .i64 (fwrap .i64 ((a0.length : Int) - a1))) :: (31, .int .i64 a1) :: (30, .int .i64 (a0.length : Int)) :: (29, .str a0) :: (28, .int .i64 x0_3.1) :: (27, .bool false) :: E5)
          refine ok_run 8 (p' := g13p7) (env' := E19) (H' := (mkH [])) (by kernel_rfl) ?_
          refine ok_keep [0, 1, 6, 7, 34] (env' := [(0, .str a0), (1, .int .i64 a1), (6, .int .i64 x0_3.1), (7, .int .i64 x0_3.2), (34, .bool (decide (fwrap .i64 ((a0.length : Int) - a1) < x0_3.1)))]) (by kernel_rfl) ?_
          exact hj4 (decide (fwrap .i64 ((a0.length : Int) - a1) < x0_3.1))
  · refine ok_split 12 (b := decide (a1 < 0)) (by kernel_rfl) (fun hb => ?_) (fun hb => ?_)
    · let E20 : Env := ((17, .bool true) :: (16, .tuple []) :: (15, .tuple []) :: (14, .tuple []) :: (13, .tuple []) :: (12, .bool true) :: E1)
      refine ok_run 6 (p' := g13p2) (env' := E20) (H' := (mkH [])) (by kernel_rfl) ?_
      refine ok_keep [0, 1, 17] (env' := [(0, .str a0), (1, .int .i64 a1), (17, .bool true)]) (by kernel_rfl) ?_
      exact hj3 true
    · let E21 : Env := ((17, .bool (decide ((a0.length : Int) ≤ a1))) :: (16, .bool (decide ((a0.length : Int) ≤ a1))) :: (15, .int .i64 (a0.length : Int)) :: (14, .str a0) :: (13, .int .i64 a1) :: (12, .bool false) :: E1)
      refine ok_run 6 (p' := g13p2) (env' := E21) (H' := (mkH [])) (by kernel_rfl) ?_
      refine ok_keep [0, 1, 17] (env' := [(0, .str a0), (1, .int .i64 a1), (17, .bool (decide ((a0.length : Int) ≤ a1)))]) (by kernel_rfl) ?_
      exact hj3 (decide ((a0.length : Int) ≤ a1))
end Go.Proofs.Ytfkefelgjbfkjaa.Am
