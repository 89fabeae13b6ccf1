/- Function 61, plain, and that the program computes it. Printed by gen.py. -/
import Derived.Test.YtokcjgjgojlhbaaTy
import Derived.Test.YtokcjgjgojlhbaaG63
import Derived.Test.YtokcjgjgojlhbaaG67
set_option maxRecDepth 100000
set_option linter.unusedVariables false
namespace Go.Proofs.Ytokcjgjgojlhbaa.Am
open Go

/-! 61 galley/lit.hex -/
noncomputable def X61 : Fx (Int × Int) := ⟨Try.prog, cx, Try.f61, fun r => .tuple [.int .i64 r.1, .int .i64 r.2], 0, fun _ => H0, cxTi, cxOrd⟩
noncomputable def g61p0 : Pt := nav [0] (bodyAt Try.f61)
noncomputable def g61p1 : Pt := nav [0, 0, 0] g61p0
noncomputable def g61p2 : Pt := nav [0, 0, 0, 0] g61p1
noncomputable def g61p3 : Pt := nav [0, 0] g61p2
noncomputable def g61p4 : Pt := nav [1] g61p3
noncomputable def g61p5 : Pt := nav [2, 0, 0] g61p3
noncomputable def g61p6 : Pt := nav [0, 0, 0, 0, 0] g61p5
noncomputable def g61p7 : Pt := nav [0, 0, 0] g61p6
noncomputable def g61p8 : Pt := nav [0, 0] g61p7
noncomputable def g61p9 : Pt := nav [1, 0, 0, 0] g61p8
noncomputable def g61p10 : Pt := nav [2, 0, 0] g61p8
noncomputable def g61p11 : Pt := nav [0, 0] g61p9
noncomputable def g61p12 : Pt := nav [0, 0, 0, 0] g61p10
noncomputable def g61p13 : Pt := nav [0, 0] g61p12
noncomputable def g61p14 : Pt := nav [1, 0] g61p13
noncomputable def g61p15 : Pt := nav [2, 0, 0] g61p13
noncomputable def g61_l6 (k : Nat)  (a0 : (List Nat)) (a1 : Int) (z5 : Int × Int × Int) (n : Nat) : Int → Int → Option (Int × Int) :=
  Nat.rec (motive := fun _ => Int → Int → Option (Int × Int)) (fun _ _ => none) (fun _ ih => fun (y6_0 : Int) (y6_1 : Int) => jn (fun (z7 : Bool × Int × Int) => if z7.1 then ((nthS a0 (fwrap .i64 (z5.1 + z7.2.2))).bind fun x2_6 => (g63 k x2_6).bind fun x2_7 => ih (orI .i64 (shlC .i64 z7.2.1 4) x2_7) (fwrap .i64 (z7.2.2 + 1))) else (jn (fun (z8 : Int × Int × Bool) => if z8.2.2 then (some (((-1) : Int), (0 : Int))) else (some (z8.1, fwrap .i64 (fwrap .i64 (z8.2.1 + z5.2.2) - a1)))) (fun j8 => if (decide (z5.2.2 = 0)) then (if (decide (z7.2.2 < 2)) then (j8 (z7.2.1, fwrap .i64 (z5.1 + z7.2.2), true)) else (if (decide (z7.2.2 < 1)) then (j8 (z7.2.1, fwrap .i64 (z5.1 + z7.2.2), true)) else (if (decide (z5.2.2 = 1)) then (if (decide ((a0.length : Int) ≤ fwrap .i64 (z5.1 + z7.2.2))) then (j8 (z7.2.1, fwrap .i64 (z5.1 + z7.2.2), true)) else ((nthS a0 (fwrap .i64 (z5.1 + z7.2.2))).bind fun x3_21 => if (!decide (x3_21 = 125)) then (j8 (z7.2.1, fwrap .i64 (z5.1 + z7.2.2), true)) else ((g67 k z7.2.1).bind fun x3_28 => j8 (z7.2.1, fwrap .i64 (z5.1 + z7.2.2), eqL x3_28 [])))) else ((g67 k z7.2.1).bind fun x3_28 => j8 (z7.2.1, fwrap .i64 (z5.1 + z7.2.2), eqL x3_28 []))))) else (if (decide (z7.2.2 < 1)) then (j8 (z7.2.1, fwrap .i64 (z5.1 + z7.2.2), true)) else (if (decide (z5.2.2 = 1)) then (if (decide ((a0.length : Int) ≤ fwrap .i64 (z5.1 + z7.2.2))) then (j8 (z7.2.1, fwrap .i64 (z5.1 + z7.2.2), true)) else ((nthS a0 (fwrap .i64 (z5.1 + z7.2.2))).bind fun x3_21 => if (!decide (x3_21 = 125)) then (j8 (z7.2.1, fwrap .i64 (z5.1 + z7.2.2), true)) else ((g67 k z7.2.1).bind fun x3_28 => j8 (z7.2.1, fwrap .i64 (z5.1 + z7.2.2), eqL x3_28 [])))) else ((g67 k z7.2.1).bind fun x3_28 => j8 (z7.2.1, fwrap .i64 (z5.1 + z7.2.2), eqL x3_28 []))))))) (fun j7 => if (decide (y6_1 < z5.2.1)) then (if (decide (fwrap .i64 (z5.1 + y6_1) < (a0.length : Int))) then ((nthS a0 (fwrap .i64 (z5.1 + y6_1))).bind fun x1_16 => (g63 k x1_16).bind fun x1_17 => j7 (decide (x1_17 < 16), y6_0, y6_1)) else (j7 (false, y6_0, y6_1))) else (j7 (false, y6_0, y6_1)))) n
theorem g61_l6_s (k : Nat)  (a0 : (List Nat)) (a1 : Int) (z5 : Int × Int × Int) (n : Nat) (y6_0 : Int) (y6_1 : Int) : g61_l6 k a0 a1 z5 (n + 1) y6_0 y6_1 = (jn (fun (z7 : Bool × Int × Int) => if z7.1 then ((nthS a0 (fwrap .i64 (z5.1 + z7.2.2))).bind fun x2_6 => (g63 k x2_6).bind fun x2_7 => (g61_l6 k a0 a1 z5 n) (orI .i64 (shlC .i64 z7.2.1 4) x2_7) (fwrap .i64 (z7.2.2 + 1))) else (jn (fun (z8 : Int × Int × Bool) => if z8.2.2 then (some (((-1) : Int), (0 : Int))) else (some (z8.1, fwrap .i64 (fwrap .i64 (z8.2.1 + z5.2.2) - a1)))) (fun j8 => if (decide (z5.2.2 = 0)) then (if (decide (z7.2.2 < 2)) then (j8 (z7.2.1, fwrap .i64 (z5.1 + z7.2.2), true)) else (if (decide (z7.2.2 < 1)) then (j8 (z7.2.1, fwrap .i64 (z5.1 + z7.2.2), true)) else (if (decide (z5.2.2 = 1)) then (if (decide ((a0.length : Int) ≤ fwrap .i64 (z5.1 + z7.2.2))) then (j8 (z7.2.1, fwrap .i64 (z5.1 + z7.2.2), true)) else ((nthS a0 (fwrap .i64 (z5.1 + z7.2.2))).bind fun x3_21 => if (!decide (x3_21 = 125)) then (j8 (z7.2.1, fwrap .i64 (z5.1 + z7.2.2), true)) else ((g67 k z7.2.1).bind fun x3_28 => j8 (z7.2.1, fwrap .i64 (z5.1 + z7.2.2), eqL x3_28 [])))) else ((g67 k z7.2.1).bind fun x3_28 => j8 (z7.2.1, fwrap .i64 (z5.1 + z7.2.2), eqL x3_28 []))))) else (if (decide (z7.2.2 < 1)) then (j8 (z7.2.1, fwrap .i64 (z5.1 + z7.2.2), true)) else (if (decide (z5.2.2 = 1)) then (if (decide ((a0.length : Int) ≤ fwrap .i64 (z5.1 + z7.2.2))) then (j8 (z7.2.1, fwrap .i64 (z5.1 + z7.2.2), true)) else ((nthS a0 (fwrap .i64 (z5.1 + z7.2.2))).bind fun x3_21 => if (!decide (x3_21 = 125)) then (j8 (z7.2.1, fwrap .i64 (z5.1 + z7.2.2), true)) else ((g67 k z7.2.1).bind fun x3_28 => j8 (z7.2.1, fwrap .i64 (z5.1 + z7.2.2), eqL x3_28 [])))) else ((g67 k z7.2.1).bind fun x3_28 => j8 (z7.2.1, fwrap .i64 (z5.1 + z7.2.2), eqL x3_28 []))))))) (fun j7 => if (decide (y6_1 < z5.2.1)) then (if (decide (fwrap .i64 (z5.1 + y6_1) < (a0.length : Int))) then ((nthS a0 (fwrap .i64 (z5.1 + y6_1))).bind fun x1_16 => (g63 k x1_16).bind fun x1_17 => j7 (decide (x1_17 < 16), y6_0, y6_1)) else (j7 (false, y6_0, y6_1))) else (j7 (false, y6_0, y6_1)))) := rfl
theorem g61_l6_ok (k : Nat)  (a0 : (List Nat)) (a1 : Int) (z5 : Int × Int × Int)  : ∀ (n : Nat) (y6_0 : Int) (y6_1 : Int), Ok X61 g61p6 [(0, .str a0), (1, .int .i64 a1), (6, .int .i64 z5.1), (7, .int .i64 z5.2.1), (8, .int .i64 z5.2.2), (9, .int .i64 y6_0), (10, .int .i64 y6_1)] (mkH []) (g61_l6 k a0 a1 z5 n y6_0 y6_1)
  | 0, _, _ => ok_none
  | n + 1, y6_0, y6_1 => by
    have ih := g61_l6_ok k a0 a1 z5 n
    rw [g61_l6_s]
    refine ok_ent (p' := nav [0] g61p6) (by kernel_rfl) ?_
    let E3 : Env := [(29, .bool (decide (y6_1 < z5.2.1))), (28, .bool (decide (y6_1 < z5.2.1))), (27, .int .i64 z5.2.1), (26, .int .i64 y6_1), (0, .str a0), (1, .int .i64 a1), (6, .int .i64 z5.1), (7, .int .i64 z5.2.1), (8, .int .i64 z5.2.2), (9, .int .i64 y6_0), (10, .int .i64 y6_1)]
    refine ok_run 7 (p' := (atN 4 (ctl1 g61p7))) (env' := E3) (H' := (mkH [])) (by kernel_rfl) ?_
    refine ok_jn (f := fun (z7 : Bool × Int × Int) => if z7.1 then ((nthS a0 (fwrap .i64 (z5.1 + z7.2.2))).bind fun x2_6 => (g63 k x2_6).bind fun x2_7 => (g61_l6 k a0 a1 z5 n) (orI .i64 (shlC .i64 z7.2.1 4) x2_7) (fwrap .i64 (z7.2.2 + 1))) else (jn (fun (z8 : Int × Int × Bool) => if z8.2.2 then (some (((-1) : Int), (0 : Int))) else (some (z8.1, fwrap .i64 (fwrap .i64 (z8.2.1 + z5.2.2) - a1)))) (fun j8 => if (decide (z5.2.2 = 0)) then (if (decide (z7.2.2 < 2)) then (j8 (z7.2.1, fwrap .i64 (z5.1 + z7.2.2), true)) else (if (decide (z7.2.2 < 1)) then (j8 (z7.2.1, fwrap .i64 (z5.1 + z7.2.2), true)) else (if (decide (z5.2.2 = 1)) then (if (decide ((a0.length : Int) ≤ fwrap .i64 (z5.1 + z7.2.2))) then (j8 (z7.2.1, fwrap .i64 (z5.1 + z7.2.2), true)) else ((nthS a0 (fwrap .i64 (z5.1 + z7.2.2))).bind fun x3_21 => if (!decide (x3_21 = 125)) then (j8 (z7.2.1, fwrap .i64 (z5.1 + z7.2.2), true)) else ((g67 k z7.2.1).bind fun x3_28 => j8 (z7.2.1, fwrap .i64 (z5.1 + z7.2.2), eqL x3_28 [])))) else ((g67 k z7.2.1).bind fun x3_28 => j8 (z7.2.1, fwrap .i64 (z5.1 + z7.2.2), eqL x3_28 []))))) else (if (decide (z7.2.2 < 1)) then (j8 (z7.2.1, fwrap .i64 (z5.1 + z7.2.2), true)) else (if (decide (z5.2.2 = 1)) then (if (decide ((a0.length : Int) ≤ fwrap .i64 (z5.1 + z7.2.2))) then (j8 (z7.2.1, fwrap .i64 (z5.1 + z7.2.2), true)) else ((nthS a0 (fwrap .i64 (z5.1 + z7.2.2))).bind fun x3_21 => if (!decide (x3_21 = 125)) then (j8 (z7.2.1, fwrap .i64 (z5.1 + z7.2.2), true)) else ((g67 k z7.2.1).bind fun x3_28 => j8 (z7.2.1, fwrap .i64 (z5.1 + z7.2.2), eqL x3_28 [])))) else ((g67 k z7.2.1).bind fun x3_28 => j8 (z7.2.1, fwrap .i64 (z5.1 + z7.2.2), eqL x3_28 []))))))) g61p8 (fun (z7 : Bool × Int × Int) => [(0, .str a0), (1, .int .i64 a1), (6, .int .i64 z5.1), (7, .int .i64 z5.2.1), (8, .int .i64 z5.2.2), (9, .int .i64 z7.2.1), (10, .int .i64 z7.2.2), (45, .bool z7.1)]) (fun (z7 : Bool × Int × Int) => (mkH [])) (fun z7 => ?_) (fun j7 hj7 => ?_)
    · refine ok_split 45 (b := z7.1) (by kernel_rfl) (fun hb => ?_) (fun hb => ?_)
      · let E4 : Env := [(51, .int .i64 (fwrap .i64 (z5.1 + z7.2.2))), (50, .int .i64 z7.2.2), (49, .int .i64 z5.1), (48, .str a0), (47, .int .i64 (shlC .i64 z7.2.1 4)), (46, .int .i64 z7.2.1), (45, .bool true), (0, .str a0), (1, .int .i64 a1), (6, .int .i64 z5.1), (7, .int .i64 z5.2.1), (8, .int .i64 z5.2.2), (9, .int .i64 z7.2.1), (10, .int .i64 z7.2.2), (45, .bool z7.1)]
        refine ok_run 11 (p' := (atN 6 (ctl1 g61p9))) (env' := E4) (H' := (mkH [])) (by kernel_rfl) ?_
        refine ok_chk (fun (x2_6 : Int) => (.int .u8 x2_6, (mkH []))) (atN 7 (ctl1 g61p9)) (fun x2_6 => ((52, .int .u8 x2_6) :: E4)) (idxH (by kernel_rfl)) (fun _ => by kernel_rfl) (fun x2_6 hx2_6 => ?_)
        refine ok_call (fun (x2_7 : Int) => .int .i64 x2_7) (atN 8 (ctl1 g61p9)) (fun x2_7 => ((53, .int .i64 x2_7) :: (52, .int .u8 x2_6) :: E4)) (fi := 63) (args := [.int .u8 x2_6]) (by kernel_rfl) (by kernel_rfl) (fun _ => by kernel_rfl) (fun r h => g63_ok k x2_6 r h) (fun _ => by kernel_rfl) (fun x2_7 hx2_7 => ?_)
        refine ok_run 3 (p' := g61p11) (env' := ((9, .int .i64 (orI .i64 (shlC .i64 z7.2.1 4) x2_7)) :: (54, .int .i64 (orI .i64 (shlC .i64 z7.2.1 4) x2_7)) :: (53, .int .i64 x2_7) :: (52, .int .u8 x2_6) :: E4)) (H' := (mkH [])) (by kernel_rfl) ?_
        refine ok_keep [0, 1, 6, 7, 8, 9, 10] (env' := [(0, .str a0), (1, .int .i64 a1), (6, .int .i64 z5.1), (7, .int .i64 z5.2.1), (8, .int .i64 z5.2.2), (9, .int .i64 (orI .i64 (shlC .i64 z7.2.1 4) x2_7)), (10, .int .i64 z7.2.2)]) (by kernel_rfl) ?_
        let E5 : Env := [(10, .int .i64 (fwrap .i64 (z7.2.2 + 1))), (56, .int .i64 (fwrap .i64 (z7.2.2 + 1))), (55, .int .i64 z7.2.2), (0, .str a0), (1, .int .i64 a1), (6, .int .i64 z5.1), (7, .int .i64 z5.2.1), (8, .int .i64 z5.2.2), (9, .int .i64 (orI .i64 (shlC .i64 z7.2.1 4) x2_7)), (10, .int .i64 z7.2.2)]
        refine ok_run 5 (p' := g61p6) (env' := E5) (H' := (mkH [])) (by kernel_rfl) ?_
        refine ok_keep [0, 1, 6, 7, 8, 9, 10] (env' := [(0, .str a0), (1, .int .i64 a1), (6, .int .i64 z5.1), (7, .int .i64 z5.2.1), (8, .int .i64 z5.2.2), (9, .int .i64 (orI .i64 (shlC .i64 z7.2.1 4) x2_7)), (10, .int .i64 (fwrap .i64 (z7.2.2 + 1)))]) (by kernel_rfl) ?_
        exact ih (orI .i64 (shlC .i64 z7.2.1 4) x2_7) (fwrap .i64 (z7.2.2 + 1))
      · let E6 : Env := [(11, .int .i64 (fwrap .i64 (z5.1 + z7.2.2))), (59, .int .i64 (fwrap .i64 (z5.1 + z7.2.2))), (58, .int .i64 z7.2.2), (57, .int .i64 z5.1), (45, .bool false), (0, .str a0), (1, .int .i64 a1), (6, .int .i64 z5.1), (7, .int .i64 z5.2.1), (8, .int .i64 z5.2.2), (9, .int .i64 z7.2.1), (10, .int .i64 z7.2.2), (45, .bool z7.1)]
        refine ok_run 11 (p' := g61p12) (env' := E6) (H' := (mkH [])) (by kernel_rfl) ?_
        refine ok_keep [0, 1, 8, 9, 10, 11] (env' := [(0, .str a0), (1, .int .i64 a1), (8, .int .i64 z5.2.2), (9, .int .i64 z7.2.1), (10, .int .i64 z7.2.2), (11, .int .i64 (fwrap .i64 (z5.1 + z7.2.2)))]) (by kernel_rfl) ?_
        let E7 : Env := [(62, .bool (decide (z5.2.2 = 0))), (61, .bool (decide (z5.2.2 = 0))), (60, .int .i64 z5.2.2), (0, .str a0), (1, .int .i64 a1), (8, .int .i64 z5.2.2), (9, .int .i64 z7.2.1), (10, .int .i64 z7.2.2), (11, .int .i64 (fwrap .i64 (z5.1 + z7.2.2)))]
        refine ok_run 4 (p' := (atN 3 (ctl1 g61p12))) (env' := E7) (H' := (mkH [])) (by kernel_rfl) ?_
        refine ok_jn (f := fun (z8 : Int × Int × Bool) => if z8.2.2 then (some (((-1) : Int), (0 : Int))) else (some (z8.1, fwrap .i64 (fwrap .i64 (z8.2.1 + z5.2.2) - a1)))) g61p13 (fun (z8 : Int × Int × Bool) => [(1, .int .i64 a1), (8, .int .i64 z5.2.2), (9, .int .i64 z8.1), (11, .int .i64 z8.2.1), (90, .bool z8.2.2)]) (fun (z8 : Int × Int × Bool) => (mkH [])) (fun z8 => ?_) (fun j8 hj8 => ?_)
        · refine ok_split 90 (b := z8.2.2) (by kernel_rfl) (fun hb => ?_) (fun hb => ?_)
          · let E8 : Env := [(5, .int .i64 0), (4, .int .i64 (-1)), (90, .bool true), (1, .int .i64 a1), (8, .int .i64 z5.2.2), (9, .int .i64 z8.1), (11, .int .i64 z8.2.1), (90, .bool z8.2.2)]
            refine ok_run 7 (p' := .fin) (env' := E8) (H' := (mkH [])) (by kernel_rfl) ?_
            exact ok_ret (r := (((-1) : Int), (0 : Int))) (xs := [.int .i64 (-1), .int .i64 0]) (v := .tuple [.int .i64 (-1), .int .i64 0]) (by kernel_rfl) (by kernel_rfl) (by kernel_rfl) (.pures (by kernel_rfl)) (by kernel_rfl)
          · let E9 : Env := [(5, .int .i64 (fwrap .i64 (fwrap .i64 (z8.2.1 + z5.2.2) - a1))), (4, .int .i64 z8.1), (96, .int .i64 (fwrap .i64 (fwrap .i64 (z8.2.1 + z5.2.2) - a1))), (95, .int .i64 a1), (94, .int .i64 (fwrap .i64 (z8.2.1 + z5.2.2))), (93, .int .i64 z5.2.2), (92, .int .i64 z8.2.1), (91, .int .i64 z8.1), (90, .bool false), (1, .int .i64 a1), (8, .int .i64 z5.2.2), (9, .int .i64 z8.1), (11, .int .i64 z8.2.1), (90, .bool z8.2.2)]
            refine ok_run 14 (p' := .fin) (env' := E9) (H' := (mkH [])) (by kernel_rfl) ?_
            exact ok_ret (r := (z8.1, fwrap .i64 (fwrap .i64 (z8.2.1 + z5.2.2) - a1))) (xs := [.int .i64 z8.1, .int .i64 (fwrap .i64 (fwrap .i64 (z8.2.1 + z5.2.2) - a1))]) (v := .tuple [.int .i64 z8.1, .int .i64 (fwrap .i64 (fwrap .i64 (z8.2.1 + z5.2.2) - a1))]) (by kernel_rfl) (by kernel_rfl) (by kernel_rfl) (.pures (by kernel_rfl)) (by kernel_rfl)
        · refine ok_split 62 (b := decide (z5.2.2 = 0)) (by kernel_rfl) (fun hb => ?_) (fun hb => ?_)
          · let E10 : Env := ((66, .bool (decide (z7.2.2 < 2))) :: (65, .bool (decide (z7.2.2 < 2))) :: (64, .bool (decide (z7.2.2 < 2))) :: (63, .int .i64 z7.2.2) :: (62, .bool true) :: E7)
            refine ok_run 4 (p' := (atN 7 (ctl1 g61p12))) (env' := E10) (H' := (mkH [])) (by kernel_rfl) ?_
            refine ok_split 66 (b := decide (z7.2.2 < 2)) (by kernel_rfl) (fun hb => ?_) (fun hb => ?_)
            · let E11 : Env := ((90, .bool true) :: (89, .tuple []) :: (88, .tuple []) :: (87, .tuple []) :: (86, .bool true) :: (85, .bool true) :: (84, .tuple []) :: (83, .tuple []) :: (82, .tuple []) :: (81, .tuple []) :: (80, .tuple []) :: (79, .tuple []) :: (78, .tuple []) :: (77, .tuple []) :: (76, .tuple []) :: (75, .tuple []) :: (74, .tuple []) :: (73, .tuple []) :: (72, .tuple []) :: (71, .tuple []) :: (70, .bool true) :: (69, .bool true) :: (68, .tuple []) :: (67, .tuple []) :: (66, .bool true) :: E10)
              refine ok_run 25 (p' := g61p13) (env' := E11) (H' := (mkH [])) (by kernel_rfl) ?_
              refine ok_keep [1, 8, 9, 11, 90] (env' := [(1, .int .i64 a1), (8, .int .i64 z5.2.2), (9, .int .i64 z7.2.1), (11, .int .i64 (fwrap .i64 (z5.1 + z7.2.2))), (90, .bool true)]) (by kernel_rfl) ?_
              exact hj8 (z7.2.1, fwrap .i64 (z5.1 + z7.2.2), true)
            · let E12 : Env := ((70, .bool (decide (z7.2.2 < 1))) :: (69, .bool (decide (z7.2.2 < 1))) :: (68, .bool (decide (z7.2.2 < 1))) :: (67, .int .i64 z7.2.2) :: (66, .bool false) :: E10)
              refine ok_run 4 (p' := (atN 11 (ctl1 g61p12))) (env' := E12) (H' := (mkH [])) (by kernel_rfl) ?_
              refine ok_split 70 (b := decide (z7.2.2 < 1)) (by kernel_rfl) (fun hb => ?_) (fun hb => ?_)
              · let E13 : Env := ((90, .bool true) :: (89, .tuple []) :: (88, .tuple []) :: (87, .tuple []) :: (86, .bool true) :: (85, .bool true) :: (84, .tuple []) :: (83, .tuple []) :: (82, .tuple []) :: (81, .tuple []) :: (80, .tuple []) :: (79, .tuple []) :: (78, .tuple []) :: (77, .tuple []) :: (76, .tuple []) :: (75, .tuple []) :: (74, .tuple []) :: (73, .tuple []) :: (72, .tuple []) :: (71, .tuple []) :: (70, .bool true) :: E12)
                refine ok_run 21 (p' := g61p13) (env' := E13) (H' := (mkH [])) (by kernel_rfl) ?_
                refine ok_keep [1, 8, 9, 11, 90] (env' := [(1, .int .i64 a1), (8, .int .i64 z5.2.2), (9, .int .i64 z7.2.1), (11, .int .i64 (fwrap .i64 (z5.1 + z7.2.2))), (90, .bool true)]) (by kernel_rfl) ?_
                exact hj8 (z7.2.1, fwrap .i64 (z5.1 + z7.2.2), true)
              · refine ok_run 3 (p' := (atN 14 (ctl1 g61p12))) (env' := ((73, .bool (decide (z5.2.2 = 1))) :: (72, .bool (decide (z5.2.2 = 1))) :: (71, .int .i64 z5.2.2) :: (70, .bool false) :: E12)) (H' := (mkH [])) (by kernel_rfl) ?_
                refine ok_split 73 (b := decide (z5.2.2 = 1)) (by kernel_rfl) (fun hb => ?_) (fun hb => ?_)
                · let E14 : Env := ((78, .bool (decide ((a0.length : Int) ≤ fwrap .i64 (z5.1 + z7.2.2)))) :: (77, .bool (decide ((a0.length : Int) ≤ fwrap .i64 (z5.1 + z7.2.2)))) :: (76, .int .i64 (a0.length : Int)) :: (75, .str a0) :: (74, .int .i64 (fwrap .i64 (z5.1 + z7.2.2))) :: (73, .bool true) :: (73, .bool (decide (z5.2.2 = 1))) :: (72, .bool (decide (z5.2.2 = 1))) :: (71, .int .i64 z5.2.2) :: (70, .bool false) :: E12)
                  refine ok_run 5 (p' := (atN 19 (ctl1 g61p12))) (env' := E14) (H' := (mkH [])) (by kernel_rfl) ?_
                  refine ok_split 78 (b := decide ((a0.length : Int) ≤ fwrap .i64 (z5.1 + z7.2.2))) (by kernel_rfl) (fun hb => ?_) (fun hb => ?_)
                  · let E15 : Env := ((90, .bool true) :: (89, .tuple []) :: (88, .tuple []) :: (87, .tuple []) :: (86, .bool true) :: (85, .bool true) :: (84, .bool true) :: (83, .bool true) :: (82, .tuple []) :: (81, .tuple []) :: (80, .tuple []) :: (79, .tuple []) :: (78, .bool true) :: E14)
                    refine ok_run 13 (p' := g61p13) (env' := E15) (H' := (mkH [])) (by kernel_rfl) ?_
                    refine ok_keep [1, 8, 9, 11, 90] (env' := [(1, .int .i64 a1), (8, .int .i64 z5.2.2), (9, .int .i64 z7.2.1), (11, .int .i64 (fwrap .i64 (z5.1 + z7.2.2))), (90, .bool true)]) (by kernel_rfl) ?_
                    exact hj8 (z7.2.1, fwrap .i64 (z5.1 + z7.2.2), true)
                  · refine ok_run 2 (p' := (atN 21 (ctl1 g61p12))) (env' := ((80, .int .i64 (fwrap .i64 (z5.1 + z7.2.2))) :: (79, .str a0) :: (78, .bool false) :: E14)) (H' := (mkH [])) (by kernel_rfl) ?_
                    refine ok_chk (fun (x3_21 : Int) => (.int .u8 x3_21, (mkH []))) (atN 22 (ctl1 g61p12)) (fun x3_21 => ((81, .int .u8 x3_21) :: (80, .int .i64 (fwrap .i64 (z5.1 + z7.2.2))) :: (79, .str a0) :: (78, .bool false) :: E14)) (idxH (by kernel_rfl)) (fun _ => by kernel_rfl) (fun x3_21 hx3_21 => ?_)
                    let E16 : Env := ((86, .bool (!decide (x3_21 = 125))) :: (85, .bool (!decide (x3_21 = 125))) :: (84, .bool (!decide (x3_21 = 125))) :: (83, .bool (!decide (x3_21 = 125))) :: (82, .bool (!decide (x3_21 = 125))) :: (81, .int .u8 x3_21) :: (80, .int .i64 (fwrap .i64 (z5.1 + z7.2.2))) :: (79, .str a0) :: (78, .bool false) :: E14)
                    refine ok_run 5 (p' := (atN 27 (ctl1 g61p12))) (env' := E16) (H' := (mkH [])) (by kernel_rfl) ?_
                    refine ok_split 86 (b := !decide (x3_21 = 125)) (by kernel_rfl) (fun hb => ?_) (fun hb => ?_)
                    · let E17 : Env := ((90, .bool true) :: (89, .tuple []) :: (88, .tuple []) :: (87, .tuple []) :: (86, .bool true) :: E16)
                      refine ok_run 5 (p' := g61p13) (env' := E17) (H' := (mkH [])) (by kernel_rfl) ?_
                      refine ok_keep [1, 8, 9, 11, 90] (env' := [(1, .int .i64 a1), (8, .int .i64 z5.2.2), (9, .int .i64 z7.2.1), (11, .int .i64 (fwrap .i64 (z5.1 + z7.2.2))), (90, .bool true)]) (by kernel_rfl) ?_
                      exact hj8 (z7.2.1, fwrap .i64 (z5.1 + z7.2.2), true)
                    · refine ok_run 1 (p' := (atN 28 (ctl1 g61p12))) (env' := ((87, .int .i64 z7.2.1) :: (86, .bool false) :: E16)) (H' := (mkH [])) (by kernel_rfl) ?_
                      refine ok_call (fun (x3_28 : (List Nat)) => .str x3_28) (atN 29 (ctl1 g61p12)) (fun x3_28 => ((88, .str x3_28) :: (87, .int .i64 z7.2.1) :: (86, .bool false) :: E16)) (fi := 67) (args := [.int .i64 z7.2.1]) (by kernel_rfl) (by kernel_rfl) (fun _ => by kernel_rfl) (fun r h => g67_ok k z7.2.1 r h) (fun _ => by kernel_rfl) (fun x3_28 hx3_28 => ?_)
                      let E18 : Env := ((90, .bool (eqL x3_28 [])) :: (89, .bool (eqL x3_28 [])) :: (88, .str x3_28) :: (87, .int .i64 z7.2.1) :: (86, .bool false) :: E16)
                      refine ok_run 3 (p' := g61p13) (env' := E18) (H' := (mkH [])) (by kernel_rfl) ?_
                      refine ok_keep [1, 8, 9, 11, 90] (env' := [(1, .int .i64 a1), (8, .int .i64 z5.2.2), (9, .int .i64 z7.2.1), (11, .int .i64 (fwrap .i64 (z5.1 + z7.2.2))), (90, .bool (eqL x3_28 []))]) (by kernel_rfl) ?_
                      exact hj8 (z7.2.1, fwrap .i64 (z5.1 + z7.2.2), eqL x3_28 [])
                · let E19 : Env := ((87, .int .i64 z7.2.1) :: (86, .bool false) :: (85, .bool false) :: (84, .bool false) :: (83, .tuple []) :: (82, .tuple []) :: (81, .tuple []) :: (80, .tuple []) :: (79, .tuple []) :: (78, .tuple []) :: (77, .tuple []) :: (76, .tuple []) :: (75, .tuple []) :: (74, .tuple []) :: (73, .bool false) :: (73, .bool (decide (z5.2.2 = 1))) :: (72, .bool (decide (z5.2.2 = 1))) :: (71, .int .i64 z5.2.2) :: (70, .bool false) :: E12)
                  refine ok_run 14 (p' := (atN 28 (ctl1 g61p12))) (env' := E19) (H' := (mkH [])) (by kernel_rfl) ?_
                  refine ok_call (fun (x3_28 : (List Nat)) => .str x3_28) (atN 29 (ctl1 g61p12)) (fun x3_28 => ((88, .str x3_28) :: E19)) (fi := 67) (args := [.int .i64 z7.2.1]) (by kernel_rfl) (by kernel_rfl) (fun _ => by kernel_rfl) (fun r h => g67_ok k z7.2.1 r h) (fun _ => by kernel_rfl) (fun x3_28 hx3_28 => ?_)
                  refine ok_run 3 (p' := g61p13) (env' := ((90, .bool (eqL x3_28 [])) :: (89, .bool (eqL x3_28 [])) :: (88, .str x3_28) :: E19)) (H' := (mkH [])) (by kernel_rfl) ?_
                  refine ok_keep [1, 8, 9, 11, 90] (env' := [(1, .int .i64 a1), (8, .int .i64 z5.2.2), (9, .int .i64 z7.2.1), (11, .int .i64 (fwrap .i64 (z5.1 + z7.2.2))), (90, .bool (eqL x3_28 []))]) (by kernel_rfl) ?_
                  exact hj8 (z7.2.1, fwrap .i64 (z5.1 + z7.2.2), eqL x3_28 [])
          · let E20 : Env := ((70, .bool (decide (z7.2.2 < 1))) :: (69, .bool (decide (z7.2.2 < 1))) :: (68, .bool (decide (z7.2.2 < 1))) :: (67, .int .i64 z7.2.2) :: (66, .bool false) :: (65, .bool false) :: (64, .tuple []) :: (63, .tuple []) :: (62, .bool false) :: E7)
            refine ok_run 8 (p' := (atN 11 (ctl1 g61p12))) (env' := E20) (H' := (mkH [])) (by kernel_rfl) ?_
            refine ok_split 70 (b := decide (z7.2.2 < 1)) (by kernel_rfl) (fun hb => ?_) (fun hb => ?_)
            · let E21 : Env := ((90, .bool true) :: (89, .tuple []) :: (88, .tuple []) :: (87, .tuple []) :: (86, .bool true) :: (85, .bool true) :: (84, .tuple []) :: (83, .tuple []) :: (82, .tuple []) :: (81, .tuple []) :: (80, .tuple []) :: (79, .tuple []) :: (78, .tuple []) :: (77, .tuple []) :: (76, .tuple []) :: (75, .tuple []) :: (74, .tuple []) :: (73, .tuple []) :: (72, .tuple []) :: (71, .tuple []) :: (70, .bool true) :: E20)
              refine ok_run 21 (p' := g61p13) (env' := E21) (H' := (mkH [])) (by kernel_rfl) ?_
              refine ok_keep [1, 8, 9, 11, 90] (env' := [(1, .int .i64 a1), (8, .int .i64 z5.2.2), (9, .int .i64 z7.2.1), (11, .int .i64 (fwrap .i64 (z5.1 + z7.2.2))), (90, .bool true)]) (by kernel_rfl) ?_
              exact hj8 (z7.2.1, fwrap .i64 (z5.1 + z7.2.2), true)
            · refine ok_run 3 (p' := (atN 14 (ctl1 g61p12))) (env' := ((73, .bool (decide (z5.2.2 = 1))) :: (72, .bool (decide (z5.2.2 = 1))) :: (71, .int .i64 z5.2.2) :: (70, .bool false) :: E20)) (H' := (mkH [])) (by kernel_rfl) ?_
              refine ok_split 73 (b := decide (z5.2.2 = 1)) (by kernel_rfl) (fun hb => ?_) (fun hb => ?_)
              · let E22 : Env := ((78, .bool (decide ((a0.length : Int) ≤ fwrap .i64 (z5.1 + z7.2.2)))) :: (77, .bool (decide ((a0.length : Int) ≤ fwrap .i64 (z5.1 + z7.2.2)))) :: (76, .int .i64 (a0.length : Int)) :: (75, .str a0) :: (74, .int .i64 (fwrap .i64 (z5.1 + z7.2.2))) :: (73, .bool true) :: (73, .bool (decide (z5.2.2 = 1))) :: (72, .bool (decide (z5.2.2 = 1))) :: (71, .int .i64 z5.2.2) :: (70, .bool false) :: E20)
                refine ok_run 5 (p' := (atN 19 (ctl1 g61p12))) (env' := E22) (H' := (mkH [])) (by kernel_rfl) ?_
                refine ok_split 78 (b := decide ((a0.length : Int) ≤ fwrap .i64 (z5.1 + z7.2.2))) (by kernel_rfl) (fun hb => ?_) (fun hb => ?_)
                · let E23 : Env := ((90, .bool true) :: (89, .tuple []) :: (88, .tuple []) :: (87, .tuple []) :: (86, .bool true) :: (85, .bool true) :: (84, .bool true) :: (83, .bool true) :: (82, .tuple []) :: (81, .tuple []) :: (80, .tuple []) :: (79, .tuple []) :: (78, .bool true) :: E22)
                  refine ok_run 13 (p' := g61p13) (env' := E23) (H' := (mkH [])) (by kernel_rfl) ?_
                  refine ok_keep [1, 8, 9, 11, 90] (env' := [(1, .int .i64 a1), (8, .int .i64 z5.2.2), (9, .int .i64 z7.2.1), (11, .int .i64 (fwrap .i64 (z5.1 + z7.2.2))), (90, .bool true)]) (by kernel_rfl) ?_
                  exact hj8 (z7.2.1, fwrap .i64 (z5.1 + z7.2.2), true)
                · refine ok_run 2 (p' := (atN 21 (ctl1 g61p12))) (env' := ((80, .int .i64 (fwrap .i64 (z5.1 + z7.2.2))) :: (79, .str a0) :: (78, .bool false) :: E22)) (H' := (mkH [])) (by kernel_rfl) ?_
                  refine ok_chk (fun (x3_21 : Int) => (.int .u8 x3_21, (mkH []))) (atN 22 (ctl1 g61p12)) (fun x3_21 => ((81, .int .u8 x3_21) :: (80, .int .i64 (fwrap .i64 (z5.1 + z7.2.2))) :: (79, .str a0) :: (78, .bool false) :: E22)) (idxH (by kernel_rfl)) (fun _ => by kernel_rfl) (fun x3_21 hx3_21 => ?_)
                  let E24 : Env := ((86, .bool (!decide (x3_21 = 125))) :: (85, .bool (!decide (x3_21 = 125))) :: (84, .bool (!decide (x3_21 = 125))) :: (83, .bool (!decide (x3_21 = 125))) :: (82, .bool (!decide (x3_21 = 125))) :: (81, .int .u8 x3_21) :: (80, .int .i64 (fwrap .i64 (z5.1 + z7.2.2))) :: (79, .str a0) :: (78, .bool false) :: E22)
                  refine ok_run 5 (p' := (atN 27 (ctl1 g61p12))) (env' := E24) (H' := (mkH [])) (by kernel_rfl) ?_
                  refine ok_split 86 (b := !decide (x3_21 = 125)) (by kernel_rfl) (fun hb => ?_) (fun hb => ?_)
                  · let E25 : Env := ((90, .bool true) :: (89, .tuple []) :: (88, .tuple []) :: (87, .tuple []) :: (86, .bool true) :: E24)
                    refine ok_run 5 (p' := g61p13) (env' := E25) (H' := (mkH [])) (by kernel_rfl) ?_
                    refine ok_keep [1, 8, 9, 11, 90] (env' := [(1, .int .i64 a1), (8, .int .i64 z5.2.2), (9, .int .i64 z7.2.1), (11, .int .i64 (fwrap .i64 (z5.1 + z7.2.2))), (90, .bool true)]) (by kernel_rfl) ?_
                    exact hj8 (z7.2.1, fwrap .i64 (z5.1 + z7.2.2), true)
                  · refine ok_run 1 (p' := (atN 28 (ctl1 g61p12))) (env' := ((87, .int .i64 z7.2.1) :: (86, .bool false) :: E24)) (H' := (mkH [])) (by kernel_rfl) ?_
                    refine ok_call (fun (x3_28 : (List Nat)) => .str x3_28) (atN 29 (ctl1 g61p12)) (fun x3_28 => ((88, .str x3_28) :: (87, .int .i64 z7.2.1) :: (86, .bool false) :: E24)) (fi := 67) (args := [.int .i64 z7.2.1]) (by kernel_rfl) (by kernel_rfl) (fun _ => by kernel_rfl) (fun r h => g67_ok k z7.2.1 r h) (fun _ => by kernel_rfl) (fun x3_28 hx3_28 => ?_)
                    let E26 : Env := ((90, .bool (eqL x3_28 [])) :: (89, .bool (eqL x3_28 [])) :: (88, .str x3_28) :: (87, .int .i64 z7.2.1) :: (86, .bool false) :: E24)
                    refine ok_run 3 (p' := g61p13) (env' := E26) (H' := (mkH [])) (by kernel_rfl) ?_
                    refine ok_keep [1, 8, 9, 11, 90] (env' := [(1, .int .i64 a1), (8, .int .i64 z5.2.2), (9, .int .i64 z7.2.1), (11, .int .i64 (fwrap .i64 (z5.1 + z7.2.2))), (90, .bool (eqL x3_28 []))]) (by kernel_rfl) ?_
                    exact hj8 (z7.2.1, fwrap .i64 (z5.1 + z7.2.2), eqL x3_28 [])
              · let E27 : Env := ((87, .int .i64 z7.2.1) :: (86, .bool false) :: (85, .bool false) :: (84, .bool false) :: (83, .tuple []) :: (82, .tuple []) :: (81, .tuple []) :: (80, .tuple []) :: (79, .tuple []) :: (78, .tuple []) :: (77, .tuple []) :: (76, .tuple []) :: (75, .tuple []) :: (74, .tuple []) :: (73, .bool false) :: (73, .bool (decide (z5.2.2 = 1))) :: (72, .bool (decide (z5.2.2 = 1))) :: (71, .int .i64 z5.2.2) :: (70, .bool false) :: E20)
                refine ok_run 14 (p' := (atN 28 (ctl1 g61p12))) (env' := E27) (H' := (mkH [])) (by kernel_rfl) ?_
                refine ok_call (fun (x3_28 : (List Nat)) => .str x3_28) (atN 29 (ctl1 g61p12)) (fun x3_28 => ((88, .str x3_28) :: E27)) (fi := 67) (args := [.int .i64 z7.2.1]) (by kernel_rfl) (by kernel_rfl) (fun _ => by kernel_rfl) (fun r h => g67_ok k z7.2.1 r h) (fun _ => by kernel_rfl) (fun x3_28 hx3_28 => ?_)
                refine ok_run 3 (p' := g61p13) (env' := ((90, .bool (eqL x3_28 [])) :: (89, .bool (eqL x3_28 [])) :: (88, .str x3_28) :: E27)) (H' := (mkH [])) (by kernel_rfl) ?_
                refine ok_keep [1, 8, 9, 11, 90] (env' := [(1, .int .i64 a1), (8, .int .i64 z5.2.2), (9, .int .i64 z7.2.1), (11, .int .i64 (fwrap .i64 (z5.1 + z7.2.2))), (90, .bool (eqL x3_28 []))]) (by kernel_rfl) ?_
                exact hj8 (z7.2.1, fwrap .i64 (z5.1 + z7.2.2), eqL x3_28 [])
    · refine ok_split 29 (b := decide (y6_1 < z5.2.1)) (by kernel_rfl) (fun hb => ?_) (fun hb => ?_)
      · let E28 : Env := ((37, .bool (decide (fwrap .i64 (z5.1 + y6_1) < (a0.length : Int)))) :: (36, .bool (decide (fwrap .i64 (z5.1 + y6_1) < (a0.length : Int)))) :: (35, .bool (decide (fwrap .i64 (z5.1 + y6_1) < (a0.length : Int)))) :: (34, .int .i64 (a0.length : Int)) :: (33, .str a0) :: (32, .int .i64 (fwrap .i64 (z5.1 + y6_1))) :: (31, .int .i64 y6_1) :: (30, .int .i64 z5.1) :: (29, .bool true) :: E3)
        refine ok_run 8 (p' := (atN 12 (ctl1 g61p7))) (env' := E28) (H' := (mkH [])) (by kernel_rfl) ?_
        refine ok_split 37 (b := decide (fwrap .i64 (z5.1 + y6_1) < (a0.length : Int))) (by kernel_rfl) (fun hb => ?_) (fun hb => ?_)
        · let E29 : Env := ((41, .int .i64 (fwrap .i64 (z5.1 + y6_1))) :: (40, .int .i64 y6_1) :: (39, .int .i64 z5.1) :: (38, .str a0) :: (37, .bool true) :: E28)
          refine ok_run 4 (p' := (atN 16 (ctl1 g61p7))) (env' := E29) (H' := (mkH [])) (by kernel_rfl) ?_
          refine ok_chk (fun (x1_16 : Int) => (.int .u8 x1_16, (mkH []))) (atN 17 (ctl1 g61p7)) (fun x1_16 => ((42, .int .u8 x1_16) :: E29)) (idxH (by kernel_rfl)) (fun _ => by kernel_rfl) (fun x1_16 hx1_16 => ?_)
          refine ok_call (fun (x1_17 : Int) => .int .i64 x1_17) (atN 18 (ctl1 g61p7)) (fun x1_17 => ((43, .int .i64 x1_17) :: (42, .int .u8 x1_16) :: E29)) (fi := 63) (args := [.int .u8 x1_16]) (by kernel_rfl) (by kernel_rfl) (fun _ => by kernel_rfl) (fun r h => g63_ok k x1_16 r h) (fun _ => by kernel_rfl) (fun x1_17 hx1_17 => ?_)
          refine ok_run 3 (p' := g61p8) (env' := ((45, .bool (decide (x1_17 < 16))) :: (44, .bool (decide (x1_17 < 16))) :: (43, .int .i64 x1_17) :: (42, .int .u8 x1_16) :: E29)) (H' := (mkH [])) (by kernel_rfl) ?_
          refine ok_keep [0, 1, 6, 7, 8, 9, 10, 45] (env' := [(0, .str a0), (1, .int .i64 a1), (6, .int .i64 z5.1), (7, .int .i64 z5.2.1), (8, .int .i64 z5.2.2), (9, .int .i64 y6_0), (10, .int .i64 y6_1), (45, .bool (decide (x1_17 < 16)))]) (by kernel_rfl) ?_
          exact hj7 (decide (x1_17 < 16), y6_0, y6_1)
        · let E30 : Env := ((45, .bool false) :: (44, .tuple []) :: (43, .tuple []) :: (42, .tuple []) :: (41, .tuple []) :: (40, .tuple []) :: (39, .tuple []) :: (38, .tuple []) :: (37, .bool false) :: E28)
          refine ok_run 9 (p' := g61p8) (env' := E30) (H' := (mkH [])) (by kernel_rfl) ?_
          refine ok_keep [0, 1, 6, 7, 8, 9, 10, 45] (env' := [(0, .str a0), (1, .int .i64 a1), (6, .int .i64 z5.1), (7, .int .i64 z5.2.1), (8, .int .i64 z5.2.2), (9, .int .i64 y6_0), (10, .int .i64 y6_1), (45, .bool false)]) (by kernel_rfl) ?_
          exact hj7 (false, y6_0, y6_1)
      · let E31 : Env := ((45, .bool false) :: (44, .tuple []) :: (43, .tuple []) :: (42, .tuple []) :: (41, .tuple []) :: (40, .tuple []) :: (39, .tuple []) :: (38, .tuple []) :: (37, .bool false) :: (36, .bool false) :: (35, .tuple []) :: (34, .tuple []) :: (33, .tuple []) :: (32, .tuple []) :: (31, .tuple []) :: (30, .tuple []) :: (29, .bool false) :: E3)
        refine ok_run 17 (p' := g61p8) (env' := E31) (H' := (mkH [])) (by kernel_rfl) ?_
        refine ok_keep [0, 1, 6, 7, 8, 9, 10, 45] (env' := [(0, .str a0), (1, .int .i64 a1), (6, .int .i64 z5.1), (7, .int .i64 z5.2.1), (8, .int .i64 z5.2.2), (9, .int .i64 y6_0), (10, .int .i64 y6_1), (45, .bool false)]) (by kernel_rfl) ?_
        exact hj7 (false, y6_0, y6_1)
noncomputable def g61 (k : Nat) (a0 : (List Nat)) (a1 : Int) : Option (Int × Int) :=
  jn (fun (z4 : Bool) => jn (fun (z5 : Int × Int × Int) => g61_l6 k a0 a1 z5 k 0 0) (fun j5 => if z4 then (j5 (fwrap .i64 (fwrap .i64 (a1 + 2) + 1), 6, 1)) else (j5 (fwrap .i64 (a1 + 2), 2, 0)))) (fun j4 => if (decide (fwrap .i64 (a1 + 2) < (a0.length : Int))) then ((nthS a0 (fwrap .i64 (a1 + 2))).bind fun x0_7 => j4 (decide (x0_7 = 123))) else (j4 false))
theorem g61_ok (k : Nat) (a0 : (List Nat)) (a1 : Int) (r : (Int × Int)) (h : g61 k a0 a1 = some r) : PureOk Try.prog 61 [.str a0, .int .i64 a1] (.tuple [.int .i64 r.1, .int .i64 r.2]) := by
  refine pure_of X61 (fun _ => rfl) Try.func61 (by decide +kernel) (by kernel_rfl) (t := g61 k a0 a1) ?_ h
  unfold g61
  refine ok_env (env' := [(0, .str a0), (1, .int .i64 a1)]) (by kernel_rfl) ?_
  let E1 : Env := [(18, .bool (decide (fwrap .i64 (a1 + 2) < (a0.length : Int)))), (17, .bool (decide (fwrap .i64 (a1 + 2) < (a0.length : Int)))), (16, .int .i64 (a0.length : Int)), (15, .str a0), (14, .int .i64 (fwrap .i64 (a1 + 2))), (8, .int .i64 0), (7, .int .i64 2), (6, .int .i64 (fwrap .i64 (a1 + 2))), (13, .int .i64 (fwrap .i64 (a1 + 2))), (12, .int .i64 a1), (5, .int .i64 0), (4, .int .i64 0), (0, .str a0), (1, .int .i64 a1)]
  refine ok_run 21 (p' := (atN 5 (ctl1 g61p2))) (env' := E1) (H' := (mkH [])) (by kernel_rfl) ?_
  refine ok_jn (f := fun (z4 : Bool) => jn (fun (z5 : Int × Int × Int) => g61_l6 k a0 a1 z5 k 0 0) (fun j5 => if z4 then (j5 (fwrap .i64 (fwrap .i64 (a1 + 2) + 1), 6, 1)) else (j5 (fwrap .i64 (a1 + 2), 2, 0)))) g61p3 (fun (z4 : Bool) => [(0, .str a0), (1, .int .i64 a1), (6, .int .i64 (fwrap .i64 (a1 + 2))), (7, .int .i64 2), (8, .int .i64 0), (23, .bool z4)]) (fun (z4 : Bool) => (mkH [])) (fun z4 => ?_) (fun j4 hj4 => ?_)
  · refine ok_jn (f := fun (z5 : Int × Int × Int) => g61_l6 k a0 a1 z5 k 0 0) g61p5 (fun (z5 : Int × Int × Int) => [(0, .str a0), (1, .int .i64 a1), (6, .int .i64 z5.1), (7, .int .i64 z5.2.1), (8, .int .i64 z5.2.2)]) (fun (z5 : Int × Int × Int) => (mkH [])) (fun z5 => ?_) (fun j5 hj5 => ?_)
    · let E2 : Env := [(10, .int .i64 0), (9, .int .i64 0), (0, .str a0), (1, .int .i64 a1), (6, .int .i64 z5.1), (7, .int .i64 z5.2.1), (8, .int .i64 z5.2.2)]
      refine ok_run 7 (p' := g61p6) (env' := E2) (H' := (mkH [])) (by kernel_rfl) ?_
      refine ok_keep [0, 1, 6, 7, 8, 9, 10] (env' := [(0, .str a0), (1, .int .i64 a1), (6, .int .i64 z5.1), (7, .int .i64 z5.2.1), (8, .int .i64 z5.2.2), (9, .int .i64 0), (10, .int .i64 0)]) (by kernel_rfl) ?_
      exact (g61_l6_ok k a0 a1 z5 k) 0 0
    · refine ok_split 23 (b := z4) (by kernel_rfl) (fun hb => ?_) (fun hb => ?_)
      · let E32 : Env := [(8, .int .i64 1), (7, .int .i64 6), (6, .int .i64 (fwrap .i64 (fwrap .i64 (a1 + 2) + 1))), (25, .int .i64 (fwrap .i64 (fwrap .i64 (a1 + 2) + 1))), (24, .int .i64 (fwrap .i64 (a1 + 2))), (23, .bool true), (0, .str a0), (1, .int .i64 a1), (6, .int .i64 (fwrap .i64 (a1 + 2))), (7, .int .i64 2), (8, .int .i64 0), (23, .bool z4)]
        refine ok_run 9 (p' := g61p5) (env' := E32) (H' := (mkH [])) (by kernel_rfl) ?_
        refine ok_keep [0, 1, 6, 7, 8] (env' := [(0, .str a0), (1, .int .i64 a1), (6, .int .i64 (fwrap .i64 (fwrap .i64 (a1 + 2) + 1))), (7, .int .i64 6), (8, .int .i64 1)]) (by kernel_rfl) ?_
        exact hj5 (fwrap .i64 (fwrap .i64 (a1 + 2) + 1), 6, 1)
      · let E33 : Env := [(23, .bool false), (0, .str a0), (1, .int .i64 a1), (6, .int .i64 (fwrap .i64 (a1 + 2))), (7, .int .i64 2), (8, .int .i64 0), (23, .bool z4)]
        refine ok_run 3 (p' := g61p5) (env' := E33) (H' := (mkH [])) (by kernel_rfl) ?_
        refine ok_keep [0, 1, 6, 7, 8] (env' := [(0, .str a0), (1, .int .i64 a1), (6, .int .i64 (fwrap .i64 (a1 + 2))), (7, .int .i64 2), (8, .int .i64 0)]) (by kernel_rfl) ?_
        exact hj5 (fwrap .i64 (a1 + 2), 2, 0)
  · refine ok_split 18 (b := decide (fwrap .i64 (a1 + 2) < (a0.length : Int))) (by kernel_rfl) (fun hb => ?_) (fun hb => ?_)
    · refine ok_run 2 (p' := (atN 7 (ctl1 g61p2))) (env' := ((20, .int .i64 (fwrap .i64 (a1 + 2))) :: (19, .str a0) :: (18, .bool true) :: E1)) (H' := (mkH [])) (by kernel_rfl) ?_
      refine ok_chk (fun (x0_7 : Int) => (.int .u8 x0_7, (mkH []))) (atN 8 (ctl1 g61p2)) (fun x0_7 => ((21, .int .u8 x0_7) :: (20, .int .i64 (fwrap .i64 (a1 + 2))) :: (19, .str a0) :: (18, .bool true) :: E1)) (idxH (by kernel_rfl)) (fun _ => by kernel_rfl) (fun x0_7 hx0_7 => ?_)
      let E34 : Env := ((23, .bool (decide (x0_7 = 123))) :: (22, .bool (decide (x0_7 = 123))) :: (21, .int .u8 x0_7) :: (20, .int .i64 (fwrap .i64 (a1 + 2))) :: (19, .str a0) :: (18, .bool true) :: E1)
      refine ok_run 3 (p' := g61p3) (env' := E34) (H' := (mkH [])) (by kernel_rfl) ?_
      refine ok_keep [0, 1, 6, 7, 8, 23] (env' := [(0, .str a0), (1, .int .i64 a1), (6, .int .i64 (fwrap .i64 (a1 + 2))), (7, .int .i64 2), (8, .int .i64 0), (23, .bool (decide (x0_7 = 123)))]) (by kernel_rfl) ?_
      exact hj4 (decide (x0_7 = 123))
    · let E35 : Env := ((23, .bool false) :: (22, .tuple []) :: (21, .tuple []) :: (20, .tuple []) :: (19, .tuple []) :: (18, .bool false) :: E1)
      refine ok_run 6 (p' := g61p3) (env' := E35) (H' := (mkH [])) (by kernel_rfl) ?_
      refine ok_keep [0, 1, 6, 7, 8, 23] (env' := [(0, .str a0), (1, .int .i64 a1), (6, .int .i64 (fwrap .i64 (a1 + 2))), (7, .int .i64 2), (8, .int .i64 0), (23, .bool false)]) (by kernel_rfl) ?_
      exact hj4 false
end Go.Proofs.Ytokcjgjgojlhbaa.Am
