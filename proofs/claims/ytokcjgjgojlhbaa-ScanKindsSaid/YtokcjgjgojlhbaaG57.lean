/- Function 57, plain, and that the program computes it. Printed by gen.py. -/
import Derived.Test.YtokcjgjgojlhbaaTy
import Derived.Test.YtokcjgjgojlhbaaG63
import Derived.Test.YtokcjgjgojlhbaaG65
set_option maxRecDepth 100000
set_option linter.unusedVariables false
namespace Go.Proofs.Ytokcjgjgojlhbaa.Am
open Go

/-! 57 galley/lit.Front -/
noncomputable def X57 : Fx (Int × Int) := ⟨Try.prog, cx, Try.f57, fun r => .tuple [.int .i64 r.1, .int .i64 r.2], 0, fun _ => H0, cxTi, cxOrd⟩
noncomputable def g57p0 : Pt := nav [0] (bodyAt Try.f57)
noncomputable def g57p1 : Pt := nav [0, 0, 0] g57p0
noncomputable def g57p2 : Pt := nav [0, 0, 0, 0] g57p1
noncomputable def g57p3 : Pt := nav [0, 0] g57p2
noncomputable def g57p4 : Pt := nav [1, 0] g57p3
noncomputable def g57p5 : Pt := nav [2, 0, 0] g57p3
noncomputable def g57p7 : Pt := nav [0, 0, 0, 0] g57p5
noncomputable def g57p8 : Pt := nav [0, 0, 0, 0] g57p7
noncomputable def g57p9 : Pt := nav [0, 0] g57p8
noncomputable def g57p10 : Pt := nav [0, 0, 0] g57p9
noncomputable def g57p11 : Pt := nav [1, 0, 0, 0, 0] g57p10
noncomputable def g57p12 : Pt := nav [2, 0, 0, 0] g57p10
noncomputable def g57p13 : Pt := nav [0, 0, 0] g57p11
noncomputable def g57p14 : Pt := nav [0, 0] g57p12
noncomputable def g57p15 : Pt := nav [0, 0, 0] g57p13
noncomputable def g57p16 : Pt := nav [1, 0] g57p14
noncomputable def g57p17 : Pt := nav [2, 0, 0] g57p14
noncomputable def g57p18 : Pt := nav [0, 0] g57p15
noncomputable def g57p19 : Pt := nav [1, 0] g57p18
noncomputable def g57p20 : Pt := nav [2, 0] g57p18
noncomputable def g57_l4 (k : Nat)  (a0 : (List Nat)) (x0_1 : Int) (n : Nat) : Int → Int → Option (Int × Int) :=
  Nat.rec (motive := fun _ => Int → Int → Option (Int × Int)) (fun _ _ => none) (fun _ ih => fun (y4_0 : Int) (y4_1 : Int) => if (decide (y4_1 < x0_1)) then ((nthS a0 y4_1).bind fun x2_4 => (g63 k x2_4).bind fun x2_5 => if (decide (36 < fwrap .i64 (fwrap .i64 (10 * y4_0) + x2_5))) then (some ((0 : Int), (10 : Int))) else (ih (fwrap .i64 (fwrap .i64 (10 * y4_0) + x2_5)) (fwrap .i64 (y4_1 + 1)))) else (if (decide (y4_0 < 2)) then (some ((0 : Int), (10 : Int))) else (some (fwrap .i64 (x0_1 + 1), y4_0)))) n
theorem g57_l4_s (k : Nat)  (a0 : (List Nat)) (x0_1 : Int) (n : Nat) (y4_0 : Int) (y4_1 : Int) : g57_l4 k a0 x0_1 (n + 1) y4_0 y4_1 = (if (decide (y4_1 < x0_1)) then ((nthS a0 y4_1).bind fun x2_4 => (g63 k x2_4).bind fun x2_5 => if (decide (36 < fwrap .i64 (fwrap .i64 (10 * y4_0) + x2_5))) then (some ((0 : Int), (10 : Int))) else ((g57_l4 k a0 x0_1 n) (fwrap .i64 (fwrap .i64 (10 * y4_0) + x2_5)) (fwrap .i64 (y4_1 + 1)))) else (if (decide (y4_0 < 2)) then (some ((0 : Int), (10 : Int))) else (some (fwrap .i64 (x0_1 + 1), y4_0)))) := rfl
theorem g57_l4_ok (k : Nat)  (a0 : (List Nat)) (x0_1 : Int)  : ∀ (n : Nat) (y4_0 : Int) (y4_1 : Int), Ok X57 g57p8 [(0, .str a0), (4, .int .i64 x0_1), (5, .int .i64 y4_0), (27, .int .i64 x0_1), (28, .int .i64 y4_1)] (mkH []) (g57_l4 k a0 x0_1 n y4_0 y4_1)
  | 0, _, _ => ok_none
  | n + 1, y4_0, y4_1 => by
    have ih := g57_l4_ok k a0 x0_1 n
    rw [g57_l4_s]
    refine ok_ent (p' := nav [0] g57p8) (by kernel_rfl) ?_
    let E4 : Env := [(29, .bool (decide (y4_1 < x0_1))), (0, .str a0), (4, .int .i64 x0_1), (5, .int .i64 y4_0), (27, .int .i64 x0_1), (28, .int .i64 y4_1)]
    refine ok_run 5 (p' := g57p10) (env' := E4) (H' := (mkH [])) (by kernel_rfl) ?_
    refine ok_split 29 (b := decide (y4_1 < x0_1)) (by kernel_rfl) (fun hb => ?_) (fun hb => ?_)
    · let E5 : Env := ((34, .int .i64 y4_1) :: (33, .str a0) :: (32, .int .i64 (fwrap .i64 (10 * y4_0))) :: (31, .int .i64 y4_0) :: (6, .int .i64 y4_1) :: (30, .int .i64 y4_1) :: (29, .bool true) :: E4)
      refine ok_run 15 (p' := (atN 4 (ctl1 g57p13))) (env' := E5) (H' := (mkH [])) (by kernel_rfl) ?_
      refine ok_chk (fun (x2_4 : Int) => (.int .u8 x2_4, (mkH []))) (atN 5 (ctl1 g57p13)) (fun x2_4 => ((35, .int .u8 x2_4) :: E5)) (idxH (by kernel_rfl)) (fun _ => by kernel_rfl) (fun x2_4 hx2_4 => ?_)
      refine ok_call (fun (x2_5 : Int) => .int .i64 x2_5) (atN 6 (ctl1 g57p13)) (fun x2_5 => ((36, .int .i64 x2_5) :: (35, .int .u8 x2_4) :: E5)) (fi := 63) (args := [.int .u8 x2_4]) (by kernel_rfl) (by kernel_rfl) (fun _ => by kernel_rfl) (fun r h => g63_ok k x2_4 r h) (fun _ => by kernel_rfl) (fun x2_5 hx2_5 => ?_)
      refine ok_run 4 (p' := g57p15) (env' := ((5, .int .i64 (fwrap .i64 (fwrap .i64 (10 * y4_0) + x2_5))) :: (37, .int .i64 (fwrap .i64 (fwrap .i64 (10 * y4_0) + x2_5))) :: (36, .int .i64 x2_5) :: (35, .int .u8 x2_4) :: E5)) (H' := (mkH [])) (by kernel_rfl) ?_
      refine ok_keep [0, 4, 5, 27, 28] (env' := [(0, .str a0), (4, .int .i64 x0_1), (5, .int .i64 (fwrap .i64 (fwrap .i64 (10 * y4_0) + x2_5))), (27, .int .i64 x0_1), (28, .int .i64 y4_1)]) (by kernel_rfl) ?_
      let E6 : Env := [(39, .bool (decide (36 < fwrap .i64 (fwrap .i64 (10 * y4_0) + x2_5)))), (38, .int .i64 (fwrap .i64 (fwrap .i64 (10 * y4_0) + x2_5))), (0, .str a0), (4, .int .i64 x0_1), (5, .int .i64 (fwrap .i64 (fwrap .i64 (10 * y4_0) + x2_5))), (27, .int .i64 x0_1), (28, .int .i64 y4_1)]
      refine ok_run 4 (p' := g57p18) (env' := E6) (H' := (mkH [])) (by kernel_rfl) ?_
      refine ok_split 39 (b := decide (36 < fwrap .i64 (fwrap .i64 (10 * y4_0) + x2_5))) (by kernel_rfl) (fun hb => ?_) (fun hb => ?_)
      · refine ok_run 7 (p' := .fin) (env' := ((3, .int .i64 10) :: (2, .int .i64 0) :: (39, .bool true) :: E6)) (H' := (mkH [])) (by kernel_rfl) ?_
        exact ok_ret (r := ((0 : Int), (10 : Int))) (xs := [.int .i64 0, .int .i64 10]) (v := .tuple [.int .i64 0, .int .i64 10]) (by kernel_rfl) (by kernel_rfl) (by kernel_rfl) (.pures (by kernel_rfl)) (by kernel_rfl)
      · refine ok_run 6 (p' := g57p8) (env' := ((28, .int .i64 (fwrap .i64 (y4_1 + 1))) :: (40, .int .i64 (fwrap .i64 (y4_1 + 1))) :: (39, .bool false) :: E6)) (H' := (mkH [])) (by kernel_rfl) ?_
        refine ok_keep [0, 4, 5, 27, 28] (env' := [(0, .str a0), (4, .int .i64 x0_1), (5, .int .i64 (fwrap .i64 (fwrap .i64 (10 * y4_0) + x2_5))), (27, .int .i64 x0_1), (28, .int .i64 (fwrap .i64 (y4_1 + 1)))]) (by kernel_rfl) ?_
        exact ih (fwrap .i64 (fwrap .i64 (10 * y4_0) + x2_5)) (fwrap .i64 (y4_1 + 1))
    · refine ok_run 8 (p' := g57p14) (env' := ((42, .bool (decide (y4_0 < 2))) :: (41, .int .i64 y4_0) :: (29, .bool false) :: E4)) (H' := (mkH [])) (by kernel_rfl) ?_
      refine ok_split 42 (b := decide (y4_0 < 2)) (by kernel_rfl) (fun hb => ?_) (fun hb => ?_)
      · let E7 : Env := ((3, .int .i64 10) :: (2, .int .i64 0) :: (42, .bool true) :: (42, .bool (decide (y4_0 < 2))) :: (41, .int .i64 y4_0) :: (29, .bool false) :: E4)
        refine ok_run 7 (p' := .fin) (env' := E7) (H' := (mkH [])) (by kernel_rfl) ?_
        exact ok_ret (r := ((0 : Int), (10 : Int))) (xs := [.int .i64 0, .int .i64 10]) (v := .tuple [.int .i64 0, .int .i64 10]) (by kernel_rfl) (by kernel_rfl) (by kernel_rfl) (.pures (by kernel_rfl)) (by kernel_rfl)
      · let E8 : Env := ((3, .int .i64 y4_0) :: (2, .int .i64 (fwrap .i64 (x0_1 + 1))) :: (45, .int .i64 y4_0) :: (44, .int .i64 (fwrap .i64 (x0_1 + 1))) :: (43, .int .i64 x0_1) :: (42, .bool false) :: (42, .bool (decide (y4_0 < 2))) :: (41, .int .i64 y4_0) :: (29, .bool false) :: E4)
        refine ok_run 11 (p' := .fin) (env' := E8) (H' := (mkH [])) (by kernel_rfl) ?_
        exact ok_ret (r := (fwrap .i64 (x0_1 + 1), y4_0)) (xs := [.int .i64 (fwrap .i64 (x0_1 + 1)), .int .i64 y4_0]) (v := .tuple [.int .i64 (fwrap .i64 (x0_1 + 1)), .int .i64 y4_0]) (by kernel_rfl) (by kernel_rfl) (by kernel_rfl) (.pures (by kernel_rfl)) (by kernel_rfl)
noncomputable def g57 (k : Nat) (a0 : (List Nat)) : Option (Int × Int) :=
  (g65 k a0).bind fun x0_1 => jn (fun (z3 : Bool) => if z3 then (some ((0 : Int), (10 : Int))) else (g57_l4 k a0 x0_1 k 0 0)) (fun j3 => if (decide (x0_1 < 1)) then (j3 true) else (if (decide (2 < x0_1)) then (j3 true) else (if (decide ((a0.length : Int) ≤ x0_1)) then (j3 true) else ((nthS a0 x0_1).bind fun x1_15 => j3 (!decide (x1_15 = 35))))))
theorem g57_ok (k : Nat) (a0 : (List Nat)) (r : (Int × Int)) (h : g57 k a0 = some r) : PureOk Try.prog 57 [.str a0] (.tuple [.int .i64 r.1, .int .i64 r.2]) := by
  refine pure_of X57 (fun _ => rfl) Try.func57 (by decide +kernel) (by kernel_rfl) (t := g57 k a0) ?_ h
  unfold g57
  refine ok_env (env' := [(0, .str a0)]) (by kernel_rfl) ?_
  refine ok_run 8 (p' := (atN 1 (ctl1 g57p1))) (env' := [(7, .str a0), (3, .int .i64 0), (2, .int .i64 0), (0, .str a0)]) (H' := (mkH [])) (by kernel_rfl) ?_
  refine ok_call (fun (x0_1 : Int) => .int .i64 x0_1) (atN 2 (ctl1 g57p1)) (fun x0_1 => [(8, .int .i64 x0_1), (7, .str a0), (3, .int .i64 0), (2, .int .i64 0), (0, .str a0)]) (fi := 65) (args := [.str a0]) (by kernel_rfl) (by kernel_rfl) (fun _ => by kernel_rfl) (fun r h => g65_ok k a0 r h) (fun _ => by kernel_rfl) (fun x0_1 hx0_1 => ?_)
  let E1 : Env := [(11, .bool (decide (x0_1 < 1))), (10, .bool (decide (x0_1 < 1))), (9, .int .i64 x0_1), (4, .int .i64 x0_1), (8, .int .i64 x0_1), (7, .str a0), (3, .int .i64 0), (2, .int .i64 0), (0, .str a0)]
  refine ok_run 8 (p' := (atN 3 (ctl1 g57p2))) (env' := E1) (H' := (mkH [])) (by kernel_rfl) ?_
  refine ok_jn (f := fun (z3 : Bool) => if z3 then (some ((0 : Int), (10 : Int))) else (g57_l4 k a0 x0_1 k 0 0)) g57p3 (fun (z3 : Bool) => [(0, .str a0), (4, .int .i64 x0_1), (26, .bool z3)]) (fun (z3 : Bool) => (mkH [])) (fun z3 => ?_) (fun j3 hj3 => ?_)
  · refine ok_split 26 (b := z3) (by kernel_rfl) (fun hb => ?_) (fun hb => ?_)
    · let E2 : Env := [(3, .int .i64 10), (2, .int .i64 0), (26, .bool true), (0, .str a0), (4, .int .i64 x0_1), (26, .bool z3)]
      refine ok_run 7 (p' := .fin) (env' := E2) (H' := (mkH [])) (by kernel_rfl) ?_
      exact ok_ret (r := ((0 : Int), (10 : Int))) (xs := [.int .i64 0, .int .i64 10]) (v := .tuple [.int .i64 0, .int .i64 10]) (by kernel_rfl) (by kernel_rfl) (by kernel_rfl) (.pures (by kernel_rfl)) (by kernel_rfl)
    · let E3 : Env := [(28, .int .i64 0), (27, .int .i64 x0_1), (5, .int .i64 0), (26, .bool false), (0, .str a0), (4, .int .i64 x0_1), (26, .bool z3)]
      refine ok_run 14 (p' := g57p8) (env' := E3) (H' := (mkH [])) (by kernel_rfl) ?_
      refine ok_keep [0, 4, 5, 27, 28] (env' := [(0, .str a0), (4, .int .i64 x0_1), (5, .int .i64 0), (27, .int .i64 x0_1), (28, .int .i64 0)]) (by kernel_rfl) ?_
      exact (g57_l4_ok k a0 x0_1 k) 0 0
  · refine ok_split 11 (b := decide (x0_1 < 1)) (by kernel_rfl) (fun hb => ?_) (fun hb => ?_)
    · let E9 : Env := ((26, .bool true) :: (25, .tuple []) :: (24, .tuple []) :: (23, .tuple []) :: (22, .tuple []) :: (21, .bool true) :: (20, .bool true) :: (19, .tuple []) :: (18, .tuple []) :: (17, .tuple []) :: (16, .tuple []) :: (15, .bool true) :: (14, .bool true) :: (13, .tuple []) :: (12, .tuple []) :: (11, .bool true) :: E1)
      refine ok_run 16 (p' := g57p3) (env' := E9) (H' := (mkH [])) (by kernel_rfl) ?_
      refine ok_keep [0, 4, 26] (env' := [(0, .str a0), (4, .int .i64 x0_1), (26, .bool true)]) (by kernel_rfl) ?_
      exact hj3 true
    · let E10 : Env := ((15, .bool (decide (2 < x0_1))) :: (14, .bool (decide (2 < x0_1))) :: (13, .bool (decide (2 < x0_1))) :: (12, .int .i64 x0_1) :: (11, .bool false) :: E1)
      refine ok_run 4 (p' := (atN 7 (ctl1 g57p2))) (env' := E10) (H' := (mkH [])) (by kernel_rfl) ?_
      refine ok_split 15 (b := decide (2 < x0_1)) (by kernel_rfl) (fun hb => ?_) (fun hb => ?_)
      · let E11 : Env := ((26, .bool true) :: (25, .tuple []) :: (24, .tuple []) :: (23, .tuple []) :: (22, .tuple []) :: (21, .bool true) :: (20, .bool true) :: (19, .tuple []) :: (18, .tuple []) :: (17, .tuple []) :: (16, .tuple []) :: (15, .bool true) :: E10)
        refine ok_run 12 (p' := g57p3) (env' := E11) (H' := (mkH [])) (by kernel_rfl) ?_
        refine ok_keep [0, 4, 26] (env' := [(0, .str a0), (4, .int .i64 x0_1), (26, .bool true)]) (by kernel_rfl) ?_
        exact hj3 true
      · let E12 : Env := ((21, .bool (decide ((a0.length : Int) ≤ x0_1))) :: (20, .bool (decide ((a0.length : Int) ≤ x0_1))) :: (19, .bool (decide ((a0.length : Int) ≤ x0_1))) :: (18, .int .i64 (a0.length : Int)) :: (17, .str a0) :: (16, .int .i64 x0_1) :: (15, .bool false) :: E10)
        refine ok_run 6 (p' := (atN 13 (ctl1 g57p2))) (env' := E12) (H' := (mkH [])) (by kernel_rfl) ?_
        refine ok_split 21 (b := decide ((a0.length : Int) ≤ x0_1)) (by kernel_rfl) (fun hb => ?_) (fun hb => ?_)
        · let E13 : Env := ((26, .bool true) :: (25, .tuple []) :: (24, .tuple []) :: (23, .tuple []) :: (22, .tuple []) :: (21, .bool true) :: E12)
          refine ok_run 6 (p' := g57p3) (env' := E13) (H' := (mkH [])) (by kernel_rfl) ?_
          refine ok_keep [0, 4, 26] (env' := [(0, .str a0), (4, .int .i64 x0_1), (26, .bool true)]) (by kernel_rfl) ?_
          exact hj3 true
        · refine ok_run 2 (p' := (atN 15 (ctl1 g57p2))) (env' := ((23, .int .i64 x0_1) :: (22, .str a0) :: (21, .bool false) :: E12)) (H' := (mkH [])) (by kernel_rfl) ?_
          refine ok_chk (fun (x1_15 : Int) => (.int .u8 x1_15, (mkH []))) (atN 16 (ctl1 g57p2)) (fun x1_15 => ((24, .int .u8 x1_15) :: (23, .int .i64 x0_1) :: (22, .str a0) :: (21, .bool false) :: E12)) (idxH (by kernel_rfl)) (fun _ => by kernel_rfl) (fun x1_15 hx1_15 => ?_)
          let E14 : Env := ((26, .bool (!decide (x1_15 = 35))) :: (25, .bool (!decide (x1_15 = 35))) :: (24, .int .u8 x1_15) :: (23, .int .i64 x0_1) :: (22, .str a0) :: (21, .bool false) :: E12)
          refine ok_run 3 (p' := g57p3) (env' := E14) (H' := (mkH [])) (by kernel_rfl) ?_
          refine ok_keep [0, 4, 26] (env' := [(0, .str a0), (4, .int .i64 x0_1), (26, .bool (!decide (x1_15 = 35)))]) (by kernel_rfl) ?_
          exact hj3 (!decide (x1_15 = 35))
end Go.Proofs.Ytokcjgjgojlhbaa.Am
