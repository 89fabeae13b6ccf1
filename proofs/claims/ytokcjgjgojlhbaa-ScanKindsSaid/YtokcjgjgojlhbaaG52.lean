/- Function 52, plain, and that the program computes it. Printed by gen.py. -/
import Derived.Test.YtokcjgjgojlhbaaTy
import Derived.Test.YtokcjgjgojlhbaaG31
import Derived.Test.YtokcjgjgojlhbaaG61
import Derived.Test.YtokcjgjgojlhbaaG62
import Derived.Test.YtokcjgjgojlhbaaG63
set_option maxRecDepth 100000
set_option linter.unusedVariables false
namespace Go.Proofs.Ytokcjgjgojlhbaa.Am
open Go

/-! 52 galley/lit.Escape -/
noncomputable def X52 : Fx (Int × Int) := ⟨Try.prog, cx, Try.f52, fun r => .tuple [.int .i64 r.1, .int .i64 r.2], 0, fun _ => H0, cxTi, cxOrd⟩
noncomputable def g52p0 : Pt := nav [0] (bodyAt Try.f52)
noncomputable def g52p1 : Pt := nav [0, 0, 0, 0] g52p0
noncomputable def g52p2 : Pt := nav [0, 0] g52p1
noncomputable def g52p3 : Pt := nav [1, 0] g52p2
noncomputable def g52p4 : Pt := nav [2, 0, 0] g52p2
noncomputable def g52p6 : Pt := nav [0, 0, 0, 0, 0] g52p4
noncomputable def g52p7 : Pt := nav [0, 0] g52p6
noncomputable def g52p8 : Pt := nav [1, 0] g52p7
noncomputable def g52p9 : Pt := nav [2, 0] g52p7
noncomputable def g52p10 : Pt := nav [0, 0] g52p9
noncomputable def g52p11 : Pt := nav [1, 0] g52p10
noncomputable def g52p12 : Pt := nav [2, 0] g52p10
noncomputable def g52p13 : Pt := nav [0, 0] g52p12
noncomputable def g52p14 : Pt := nav [1, 0] g52p13
noncomputable def g52p15 : Pt := nav [2, 0, 0, 0] g52p13
noncomputable def g52p16 : Pt := nav [0, 0, 0, 0, 0] g52p14
noncomputable def g52p17 : Pt := nav [0, 0, 0, 0] g52p15
noncomputable def g52p18 : Pt := nav [0, 0, 0] g52p16
noncomputable def g52p19 : Pt := nav [0, 0] g52p17
noncomputable def g52p20 : Pt := nav [0, 0] g52p18
noncomputable def g52p21 : Pt := nav [0, 0, 0] g52p19
noncomputable def g52p22 : Pt := nav [1, 0, 0, 0] g52p20
noncomputable def g52p23 : Pt := nav [2, 0, 0] g52p20
noncomputable def g52p24 : Pt := nav [1, 0, 0, 0] g52p21
noncomputable def g52p25 : Pt := nav [2, 0, 0] g52p21
noncomputable def g52p26 : Pt := nav [0, 0] g52p22
noncomputable def g52p27 : Pt := nav [0, 0, 0] g52p24
noncomputable def g52p28 : Pt := nav [0, 0, 0, 0] g52p25
noncomputable def g52p29 : Pt := nav [0, 0] g52p27
noncomputable def g52p30 : Pt := nav [0, 0] g52p28
noncomputable def g52p31 : Pt := nav [1, 0] g52p29
noncomputable def g52p32 : Pt := nav [1, 0] g52p30
noncomputable def g52p33 : Pt := nav [2, 0, 0] g52p30
noncomputable def g52_l9 (k : Nat)  (a0 : (List Nat)) (a1 : Int) (n : Nat) : Int → Int → Option (Int × Int) :=
  Nat.rec (motive := fun _ => Int → Int → Option (Int × Int)) (fun _ _ => none) (fun _ ih => fun (y9_0 : Int) (y9_1 : Int) => jn (fun (z10 : Bool × Int × Int) => if z10.1 then ((nthS a0 (fwrap .i64 (a1 + z10.2.1))).bind fun x6_6 => (g63 k x6_6).bind fun x6_7 => ih (orI .i64 (shlC .i64 z10.2.2 3) x6_7) (fwrap .i64 (z10.2.1 + 1))) else (some (z10.2.2, z10.2.1))) (fun j10 => if (decide (y9_1 < 4)) then (if (decide (fwrap .i64 (a1 + y9_1) < (a0.length : Int))) then ((nthS a0 (fwrap .i64 (a1 + y9_1))).bind fun x5_15 => (g63 k x5_15).bind fun x5_16 => j10 (decide (x5_16 < 8), y9_1, y9_0)) else (j10 (false, y9_1, y9_0))) else (j10 (false, y9_1, y9_0)))) n
theorem g52_l9_s (k : Nat)  (a0 : (List Nat)) (a1 : Int) (n : Nat) (y9_0 : Int) (y9_1 : Int) : g52_l9 k a0 a1 (n + 1) y9_0 y9_1 = (jn (fun (z10 : Bool × Int × Int) => if z10.1 then ((nthS a0 (fwrap .i64 (a1 + z10.2.1))).bind fun x6_6 => (g63 k x6_6).bind fun x6_7 => (g52_l9 k a0 a1 n) (orI .i64 (shlC .i64 z10.2.2 3) x6_7) (fwrap .i64 (z10.2.1 + 1))) else (some (z10.2.2, z10.2.1))) (fun j10 => if (decide (y9_1 < 4)) then (if (decide (fwrap .i64 (a1 + y9_1) < (a0.length : Int))) then ((nthS a0 (fwrap .i64 (a1 + y9_1))).bind fun x5_15 => (g63 k x5_15).bind fun x5_16 => j10 (decide (x5_16 < 8), y9_1, y9_0)) else (j10 (false, y9_1, y9_0))) else (j10 (false, y9_1, y9_0)))) := rfl
theorem g52_l9_ok (k : Nat)  (a0 : (List Nat)) (a1 : Int)  : ∀ (n : Nat) (y9_0 : Int) (y9_1 : Int), Ok X52 g52p16 [(0, .str a0), (1, .int .i64 a1), (7, .int .i64 y9_0), (8, .int .i64 y9_1)] (mkH []) (g52_l9 k a0 a1 n y9_0 y9_1)
  | 0, _, _ => ok_none
  | n + 1, y9_0, y9_1 => by
    have ih := g52_l9_ok k a0 a1 n
    rw [g52_l9_s]
    refine ok_ent (p' := nav [0] g52p16) (by kernel_rfl) ?_
    let E10 : Env := [(63, .bool (decide (y9_1 < 4))), (62, .bool (decide (y9_1 < 4))), (61, .int .i64 y9_1), (0, .str a0), (1, .int .i64 a1), (7, .int .i64 y9_0), (8, .int .i64 y9_1)]
    refine ok_run 6 (p' := (atN 3 (ctl1 g52p18))) (env' := E10) (H' := (mkH [])) (by kernel_rfl) ?_
    refine ok_jn (f := fun (z10 : Bool × Int × Int) => if z10.1 then ((nthS a0 (fwrap .i64 (a1 + z10.2.1))).bind fun x6_6 => (g63 k x6_6).bind fun x6_7 => (g52_l9 k a0 a1 n) (orI .i64 (shlC .i64 z10.2.2 3) x6_7) (fwrap .i64 (z10.2.1 + 1))) else (some (z10.2.2, z10.2.1))) g52p20 (fun (z10 : Bool × Int × Int) => [(0, .str a0), (1, .int .i64 a1), (7, .int .i64 z10.2.2), (8, .int .i64 z10.2.1), (79, .bool z10.1)]) (fun (z10 : Bool × Int × Int) => (mkH [])) (fun z10 => ?_) (fun j10 hj10 => ?_)
    · refine ok_split 79 (b := z10.1) (by kernel_rfl) (fun hb => ?_) (fun hb => ?_)
      · let E11 : Env := [(85, .int .i64 (fwrap .i64 (a1 + z10.2.1))), (84, .int .i64 z10.2.1), (83, .int .i64 a1), (82, .str a0), (81, .int .i64 (shlC .i64 z10.2.2 3)), (80, .int .i64 z10.2.2), (79, .bool true), (0, .str a0), (1, .int .i64 a1), (7, .int .i64 z10.2.2), (8, .int .i64 z10.2.1), (79, .bool z10.1)]
        refine ok_run 11 (p' := (atN 6 (ctl1 g52p22))) (env' := E11) (H' := (mkH [])) (by kernel_rfl) ?_
        refine ok_chk (fun (x6_6 : Int) => (.int .u8 x6_6, (mkH []))) (atN 7 (ctl1 g52p22)) (fun x6_6 => ((86, .int .u8 x6_6) :: E11)) (idxH (by kernel_rfl)) (fun _ => by kernel_rfl) (fun x6_6 hx6_6 => ?_)
        refine ok_call (fun (x6_7 : Int) => .int .i64 x6_7) (atN 8 (ctl1 g52p22)) (fun x6_7 => ((87, .int .i64 x6_7) :: (86, .int .u8 x6_6) :: E11)) (fi := 63) (args := [.int .u8 x6_6]) (by kernel_rfl) (by kernel_rfl) (fun _ => by kernel_rfl) (fun r h => g63_ok k x6_6 r h) (fun _ => by kernel_rfl) (fun x6_7 hx6_7 => ?_)
        refine ok_run 3 (p' := g52p26) (env' := ((7, .int .i64 (orI .i64 (shlC .i64 z10.2.2 3) x6_7)) :: (88, .int .i64 (orI .i64 (shlC .i64 z10.2.2 3) x6_7)) :: (87, .int .i64 x6_7) :: (86, .int .u8 x6_6) :: E11)) (H' := (mkH [])) (by kernel_rfl) ?_
        refine ok_keep [0, 1, 7, 8] (env' := [(0, .str a0), (1, .int .i64 a1), (7, .int .i64 (orI .i64 (shlC .i64 z10.2.2 3) x6_7)), (8, .int .i64 z10.2.1)]) (by kernel_rfl) ?_
        let E12 : Env := [(8, .int .i64 (fwrap .i64 (z10.2.1 + 1))), (90, .int .i64 (fwrap .i64 (z10.2.1 + 1))), (89, .int .i64 z10.2.1), (0, .str a0), (1, .int .i64 a1), (7, .int .i64 (orI .i64 (shlC .i64 z10.2.2 3) x6_7)), (8, .int .i64 z10.2.1)]
        refine ok_run 5 (p' := g52p16) (env' := E12) (H' := (mkH [])) (by kernel_rfl) ?_
        refine ok_keep [0, 1, 7, 8] (env' := [(0, .str a0), (1, .int .i64 a1), (7, .int .i64 (orI .i64 (shlC .i64 z10.2.2 3) x6_7)), (8, .int .i64 (fwrap .i64 (z10.2.1 + 1)))]) (by kernel_rfl) ?_
        exact ih (orI .i64 (shlC .i64 z10.2.2 3) x6_7) (fwrap .i64 (z10.2.1 + 1))
      · let E13 : Env := [(5, .int .i64 z10.2.1), (4, .int .i64 z10.2.2), (92, .int .i64 z10.2.1), (91, .int .i64 z10.2.2), (79, .bool false), (0, .str a0), (1, .int .i64 a1), (7, .int .i64 z10.2.2), (8, .int .i64 z10.2.1), (79, .bool z10.1)]
        refine ok_run 10 (p' := .fin) (env' := E13) (H' := (mkH [])) (by kernel_rfl) ?_
        exact ok_ret (r := (z10.2.2, z10.2.1)) (xs := [.int .i64 z10.2.2, .int .i64 z10.2.1]) (v := .tuple [.int .i64 z10.2.2, .int .i64 z10.2.1]) (by kernel_rfl) (by kernel_rfl) (by kernel_rfl) (.pures (by kernel_rfl)) (by kernel_rfl)
    · refine ok_split 63 (b := decide (y9_1 < 4)) (by kernel_rfl) (fun hb => ?_) (fun hb => ?_)
      · let E14 : Env := ((71, .bool (decide (fwrap .i64 (a1 + y9_1) < (a0.length : Int)))) :: (70, .bool (decide (fwrap .i64 (a1 + y9_1) < (a0.length : Int)))) :: (69, .bool (decide (fwrap .i64 (a1 + y9_1) < (a0.length : Int)))) :: (68, .int .i64 (a0.length : Int)) :: (67, .str a0) :: (66, .int .i64 (fwrap .i64 (a1 + y9_1))) :: (65, .int .i64 y9_1) :: (64, .int .i64 a1) :: (63, .bool true) :: E10)
        refine ok_run 8 (p' := (atN 11 (ctl1 g52p18))) (env' := E14) (H' := (mkH [])) (by kernel_rfl) ?_
        refine ok_split 71 (b := decide (fwrap .i64 (a1 + y9_1) < (a0.length : Int))) (by kernel_rfl) (fun hb => ?_) (fun hb => ?_)
        · let E15 : Env := ((75, .int .i64 (fwrap .i64 (a1 + y9_1))) :: (74, .int .i64 y9_1) :: (73, .int .i64 a1) :: (72, .str a0) :: (71, .bool true) :: E14)
          refine ok_run 4 (p' := (atN 15 (ctl1 g52p18))) (env' := E15) (H' := (mkH [])) (by kernel_rfl) ?_
          refine ok_chk (fun (x5_15 : Int) => (.int .u8 x5_15, (mkH []))) (atN 16 (ctl1 g52p18)) (fun x5_15 => ((76, .int .u8 x5_15) :: E15)) (idxH (by kernel_rfl)) (fun _ => by kernel_rfl) (fun x5_15 hx5_15 => ?_)
          refine ok_call (fun (x5_16 : Int) => .int .i64 x5_16) (atN 17 (ctl1 g52p18)) (fun x5_16 => ((77, .int .i64 x5_16) :: (76, .int .u8 x5_15) :: E15)) (fi := 63) (args := [.int .u8 x5_15]) (by kernel_rfl) (by kernel_rfl) (fun _ => by kernel_rfl) (fun r h => g63_ok k x5_15 r h) (fun _ => by kernel_rfl) (fun x5_16 hx5_16 => ?_)
          refine ok_run 3 (p' := g52p20) (env' := ((79, .bool (decide (x5_16 < 8))) :: (78, .bool (decide (x5_16 < 8))) :: (77, .int .i64 x5_16) :: (76, .int .u8 x5_15) :: E15)) (H' := (mkH [])) (by kernel_rfl) ?_
          refine ok_keep [0, 1, 7, 8, 79] (env' := [(0, .str a0), (1, .int .i64 a1), (7, .int .i64 y9_0), (8, .int .i64 y9_1), (79, .bool (decide (x5_16 < 8)))]) (by kernel_rfl) ?_
          exact hj10 (decide (x5_16 < 8), y9_1, y9_0)
        · let E16 : Env := ((79, .bool false) :: (78, .tuple []) :: (77, .tuple []) :: (76, .tuple []) :: (75, .tuple []) :: (74, .tuple []) :: (73, .tuple []) :: (72, .tuple []) :: (71, .bool false) :: E14)
          refine ok_run 9 (p' := g52p20) (env' := E16) (H' := (mkH [])) (by kernel_rfl) ?_
          refine ok_keep [0, 1, 7, 8, 79] (env' := [(0, .str a0), (1, .int .i64 a1), (7, .int .i64 y9_0), (8, .int .i64 y9_1), (79, .bool false)]) (by kernel_rfl) ?_
          exact hj10 (false, y9_1, y9_0)
      · let E17 : Env := ((79, .bool false) :: (78, .tuple []) :: (77, .tuple []) :: (76, .tuple []) :: (75, .tuple []) :: (74, .tuple []) :: (73, .tuple []) :: (72, .tuple []) :: (71, .bool false) :: (70, .bool false) :: (69, .tuple []) :: (68, .tuple []) :: (67, .tuple []) :: (66, .tuple []) :: (65, .tuple []) :: (64, .tuple []) :: (63, .bool false) :: E10)
        refine ok_run 17 (p' := g52p20) (env' := E17) (H' := (mkH [])) (by kernel_rfl) ?_
        refine ok_keep [0, 1, 7, 8, 79] (env' := [(0, .str a0), (1, .int .i64 a1), (7, .int .i64 y9_0), (8, .int .i64 y9_1), (79, .bool false)]) (by kernel_rfl) ?_
        exact hj10 (false, y9_1, y9_0)
noncomputable def g52 (k : Nat) (a0 : (List Nat)) (a1 : Int) : Option (Int × Int) :=
  jn (fun (z7 : Bool) => if z7 then (some (((-1) : Int), (0 : Int))) else ((nthS a0 (fwrap .i64 (a1 + 1))).bind fun x1_3 => if (decide (x1_3 = 120)) then ((g61 k a0 a1).bind fun x2_2 => some (x2_2.1, x2_2.2)) else (if (decide (x1_3 = 94)) then ((g62 k a0 a1).bind fun x3_2 => some (x3_2.1, x3_2.2)) else (jn (fun (z8 : Bool) => if z8 then (g52_l9 k a0 a1 k 0 1) else (if (decide (x1_3 = 98)) then (some ((8 : Int), (2 : Int))) else (if (decide (x1_3 = 100)) then (some ((127 : Int), (2 : Int))) else (if (decide (x1_3 = 101)) then (some ((27 : Int), (2 : Int))) else (if (decide (x1_3 = 102)) then (some ((12 : Int), (2 : Int))) else (if (decide (x1_3 = 110)) then (some ((10 : Int), (2 : Int))) else (if (decide (x1_3 = 114)) then (some ((13 : Int), (2 : Int))) else (if (decide (x1_3 = 115)) then (some ((32 : Int), (2 : Int))) else (if (decide (x1_3 = 116)) then (some ((9 : Int), (2 : Int))) else (if (decide (x1_3 = 118)) then (some ((11 : Int), (2 : Int))) else ((g31 k a0 (fwrap .i64 (a1 + 1))).bind fun x4_3 => if (decide (x4_3.1 < 32)) then (some (((-1) : Int), (0 : Int))) else (some (x4_3.1, fwrap .i64 (x4_3.2 + 1)))))))))))))) (fun j8 => if (decide (48 ≤ x1_3)) then (j8 (decide (x1_3 ≤ 55))) else (j8 false)))))) (fun j7 => if (decide (a1 < 0)) then (j7 true) else (if (decide ((a0.length : Int) ≤ a1)) then (j7 true) else ((nthS a0 a1).bind fun x0_11 => if (!decide (x0_11 = 92)) then (j7 true) else (j7 (decide ((a0.length : Int) ≤ fwrap .i64 (a1 + 1)))))))
theorem g52_ok (k : Nat) (a0 : (List Nat)) (a1 : Int) (r : (Int × Int)) (h : g52 k a0 a1 = some r) : PureOk Try.prog 52 [.str a0, .int .i64 a1] (.tuple [.int .i64 r.1, .int .i64 r.2]) := by
  refine pure_of X52 (fun _ => rfl) Try.func52 (by decide +kernel) (by kernel_rfl) (t := g52 k a0 a1) ?_ h
  unfold g52
  refine ok_env (env' := [(0, .str a0), (1, .int .i64 a1)]) (by kernel_rfl) ?_
  let E1 : Env := [(15, .bool (decide (a1 < 0))), (14, .bool (decide (a1 < 0))), (13, .int .i64 a1), (5, .int .i64 0), (4, .int .i64 0), (0, .str a0), (1, .int .i64 a1)]
  refine ok_run 11 (p' := (atN 3 (ctl1 g52p1))) (env' := E1) (H' := (mkH [])) (by kernel_rfl) ?_
  refine ok_jn (f := fun (z7 : Bool) => if z7 then (some (((-1) : Int), (0 : Int))) else ((nthS a0 (fwrap .i64 (a1 + 1))).bind fun x1_3 => if (decide (x1_3 = 120)) then ((g61 k a0 a1).bind fun x2_2 => some (x2_2.1, x2_2.2)) else (if (decide (x1_3 = 94)) then ((g62 k a0 a1).bind fun x3_2 => some (x3_2.1, x3_2.2)) else (jn (fun (z8 : Bool) => if z8 then (g52_l9 k a0 a1 k 0 1) else (if (decide (x1_3 = 98)) then (some ((8 : Int), (2 : Int))) else (if (decide (x1_3 = 100)) then (some ((127 : Int), (2 : Int))) else (if (decide (x1_3 = 101)) then (some ((27 : Int), (2 : Int))) else (if (decide (x1_3 = 102)) then (some ((12 : Int), (2 : Int))) else (if (decide (x1_3 = 110)) then (some ((10 : Int), (2 : Int))) else (if (decide (x1_3 = 114)) then (some ((13 : Int), (2 : Int))) else (if (decide (x1_3 = 115)) then (some ((32 : Int), (2 : Int))) else (if (decide (x1_3 = 116)) then (some ((9 : Int), (2 : Int))) else (if (decide (x1_3 = 118)) then (some ((11 : Int), (2 : Int))) else ((g31 k a0 (fwrap .i64 (a1 + 1))).bind fun x4_3 => if (decide (x4_3.1 < 32)) then (some (((-1) : Int), (0 : Int))) else (some (x4_3.1, fwrap .i64 (x4_3.2 + 1)))))))))))))) (fun j8 => if (decide (48 ≤ x1_3)) then (j8 (decide (x1_3 ≤ 55))) else (j8 false)))))) g52p2 (fun (z7 : Bool) => [(0, .str a0), (1, .int .i64 a1), (33, .bool z7)]) (fun (z7 : Bool) => (mkH [])) (fun z7 => ?_) (fun j7 hj7 => ?_)
  · refine ok_split 33 (b := z7) (by kernel_rfl) (fun hb => ?_) (fun hb => ?_)
    · let E2 : Env := [(5, .int .i64 0), (4, .int .i64 (-1)), (33, .bool true), (0, .str a0), (1, .int .i64 a1), (33, .bool z7)]
      refine ok_run 7 (p' := .fin) (env' := E2) (H' := (mkH [])) (by kernel_rfl) ?_
      exact ok_ret (r := (((-1) : Int), (0 : Int))) (xs := [.int .i64 (-1), .int .i64 0]) (v := .tuple [.int .i64 (-1), .int .i64 0]) (by kernel_rfl) (by kernel_rfl) (by kernel_rfl) (.pures (by kernel_rfl)) (by kernel_rfl)
    · let E3 : Env := [(36, .int .i64 (fwrap .i64 (a1 + 1))), (35, .int .i64 a1), (34, .str a0), (33, .bool false), (0, .str a0), (1, .int .i64 a1), (33, .bool z7)]
      refine ok_run 7 (p' := (atN 3 (ctl1 g52p4))) (env' := E3) (H' := (mkH [])) (by kernel_rfl) ?_
      refine ok_chk (fun (x1_3 : Int) => (.int .u8 x1_3, (mkH []))) (atN 4 (ctl1 g52p4)) (fun x1_3 => ((37, .int .u8 x1_3) :: E3)) (idxH (by kernel_rfl)) (fun _ => by kernel_rfl) (fun x1_3 hx1_3 => ?_)
      let E4 : Env := ((38, .bool (decide (x1_3 = 120))) :: (40, .bool (decide (x1_3 = 120))) :: (39, .int .u8 x1_3) :: (6, .int .u8 x1_3) :: (37, .int .u8 x1_3) :: E3)
      refine ok_run 10 (p' := g52p7) (env' := E4) (H' := (mkH [])) (by kernel_rfl) ?_
      refine ok_keep [0, 1, 6, 38] (env' := [(0, .str a0), (1, .int .i64 a1), (6, .int .u8 x1_3), (38, .bool (decide (x1_3 = 120)))]) (by kernel_rfl) ?_
      refine ok_split 38 (b := decide (x1_3 = 120)) (by kernel_rfl) (fun hb => ?_) (fun hb => ?_)
      · let E5 : Env := [(42, .int .i64 a1), (41, .str a0), (38, .bool true), (0, .str a0), (1, .int .i64 a1), (6, .int .u8 x1_3), (38, .bool (decide (x1_3 = 120)))]
        refine ok_run 5 (p' := (atN 2 (ctl1 g52p8))) (env' := E5) (H' := (mkH [])) (by kernel_rfl) ?_
        refine ok_call (fun (x2_2 : (Int × Int)) => .tuple [.int .i64 x2_2.1, .int .i64 x2_2.2]) (atN 3 (ctl1 g52p8)) (fun x2_2 => ((43, .tuple [.int .i64 x2_2.1, .int .i64 x2_2.2]) :: E5)) (fi := 61) (args := [.str a0, .int .i64 a1]) (by kernel_rfl) (by kernel_rfl) (fun _ => by kernel_rfl) (fun r h => g61_ok k a0 a1 r h) (fun _ => by kernel_rfl) (fun x2_2 hx2_2 => ?_)
        let E6 : Env := ((5, .int .i64 x2_2.2) :: (4, .int .i64 x2_2.1) :: (45, .int .i64 x2_2.2) :: (44, .int .i64 x2_2.1) :: (43, .tuple [.int .i64 x2_2.1, .int .i64 x2_2.2]) :: E5)
        refine ok_run 6 (p' := .fin) (env' := E6) (H' := (mkH [])) (by kernel_rfl) ?_
        exact ok_ret (r := (x2_2.1, x2_2.2)) (xs := [.int .i64 x2_2.1, .int .i64 x2_2.2]) (v := .tuple [.int .i64 x2_2.1, .int .i64 x2_2.2]) (by kernel_rfl) (by kernel_rfl) (by kernel_rfl) (.pures (by kernel_rfl)) (by kernel_rfl)
      · let E7 : Env := [(46, .bool (decide (x1_3 = 94))), (48, .bool (decide (x1_3 = 94))), (47, .int .u8 x1_3), (38, .bool false), (0, .str a0), (1, .int .i64 a1), (6, .int .u8 x1_3), (38, .bool (decide (x1_3 = 120)))]
        refine ok_run 7 (p' := g52p10) (env' := E7) (H' := (mkH [])) (by kernel_rfl) ?_
        refine ok_split 46 (b := decide (x1_3 = 94)) (by kernel_rfl) (fun hb => ?_) (fun hb => ?_)
        · refine ok_run 5 (p' := (atN 2 (ctl1 g52p11))) (env' := ((50, .int .i64 a1) :: (49, .str a0) :: (46, .bool true) :: E7)) (H' := (mkH [])) (by kernel_rfl) ?_
          refine ok_call (fun (x3_2 : (Int × Int)) => .tuple [.int .i64 x3_2.1, .int .i64 x3_2.2]) (atN 3 (ctl1 g52p11)) (fun x3_2 => ((51, .tuple [.int .i64 x3_2.1, .int .i64 x3_2.2]) :: (50, .int .i64 a1) :: (49, .str a0) :: (46, .bool true) :: E7)) (fi := 62) (args := [.str a0, .int .i64 a1]) (by kernel_rfl) (by kernel_rfl) (fun _ => by kernel_rfl) (fun r h => g62_ok k a0 a1 r h) (fun _ => by kernel_rfl) (fun x3_2 hx3_2 => ?_)
          let E8 : Env := ((5, .int .i64 x3_2.2) :: (4, .int .i64 x3_2.1) :: (53, .int .i64 x3_2.2) :: (52, .int .i64 x3_2.1) :: (51, .tuple [.int .i64 x3_2.1, .int .i64 x3_2.2]) :: (50, .int .i64 a1) :: (49, .str a0) :: (46, .bool true) :: E7)
          refine ok_run 6 (p' := .fin) (env' := E8) (H' := (mkH [])) (by kernel_rfl) ?_
          exact ok_ret (r := (x3_2.1, x3_2.2)) (xs := [.int .i64 x3_2.1, .int .i64 x3_2.2]) (v := .tuple [.int .i64 x3_2.1, .int .i64 x3_2.2]) (by kernel_rfl) (by kernel_rfl) (by kernel_rfl) (.pures (by kernel_rfl)) (by kernel_rfl)
        · refine ok_run 6 (p' := (atN 3 (ctl1 g52p12))) (env' := ((57, .bool (decide (48 ≤ x1_3))) :: (56, .bool (decide (48 ≤ x1_3))) :: (55, .int .u8 x1_3) :: (46, .bool false) :: E7)) (H' := (mkH [])) (by kernel_rfl) ?_
          refine ok_jn (f := fun (z8 : Bool) => if z8 then (g52_l9 k a0 a1 k 0 1) else (if (decide (x1_3 = 98)) then (some ((8 : Int), (2 : Int))) else (if (decide (x1_3 = 100)) then (some ((127 : Int), (2 : Int))) else (if (decide (x1_3 = 101)) then (some ((27 : Int), (2 : Int))) else (if (decide (x1_3 = 102)) then (some ((12 : Int), (2 : Int))) else (if (decide (x1_3 = 110)) then (some ((10 : Int), (2 : Int))) else (if (decide (x1_3 = 114)) then (some ((13 : Int), (2 : Int))) else (if (decide (x1_3 = 115)) then (some ((32 : Int), (2 : Int))) else (if (decide (x1_3 = 116)) then (some ((9 : Int), (2 : Int))) else (if (decide (x1_3 = 118)) then (some ((11 : Int), (2 : Int))) else ((g31 k a0 (fwrap .i64 (a1 + 1))).bind fun x4_3 => if (decide (x4_3.1 < 32)) then (some (((-1) : Int), (0 : Int))) else (some (x4_3.1, fwrap .i64 (x4_3.2 + 1)))))))))))))) g52p13 (fun (z8 : Bool) => [(0, .str a0), (1, .int .i64 a1), (6, .int .u8 x1_3), (54, .bool z8)]) (fun (z8 : Bool) => (mkH [])) (fun z8 => ?_) (fun j8 hj8 => ?_)
          · refine ok_split 54 (b := z8) (by kernel_rfl) (fun hb => ?_) (fun hb => ?_)
            · let E9 : Env := [(8, .int .i64 1), (7, .int .i64 0), (54, .bool true), (0, .str a0), (1, .int .i64 a1), (6, .int .u8 x1_3), (54, .bool z8)]
              refine ok_run 9 (p' := g52p16) (env' := E9) (H' := (mkH [])) (by kernel_rfl) ?_
              refine ok_keep [0, 1, 7, 8] (env' := [(0, .str a0), (1, .int .i64 a1), (7, .int .i64 0), (8, .int .i64 1)]) (by kernel_rfl) ?_
              exact (g52_l9_ok k a0 a1 k) 0 1
            · let E18 : Env := [(54, .bool false), (0, .str a0), (1, .int .i64 a1), (6, .int .u8 x1_3), (54, .bool z8)]
              refine ok_run 5 (p' := (atN 0 (ctl1 g52p15))) (env' := E18) (H' := (mkH [])) (by kernel_rfl) ?_
              refine ok_range 93 (⟨#[98, 100, 101, 102, 110, 114, 115, 116, 118]⟩ : ByteArray) (by kernel_rfl) ?_
              refine okI_at (p' := (atN 1 (ctl1 g52p15))) (by kernel_rfl) ?_
              refine okI_run 3 (p' := g52p17) (env' := ((93, .top) :: E18)) (H' := (mkH [])) (by kernel_rfl) ?_
              refine okI_ent (p' := nav [0] g52p17) (by kernel_rfl) ?_
              refine okI_run 2 (p' := (atN 0 (ctl1 g52p19))) (env' := ((93, .top) :: E18)) (H' := (mkH [])) (by kernel_rfl) ?_
              refine okI_next 94 (by kernel_rfl) rfl 98 1 (by kernel_rfl) ?_
              refine okI_at (p' := (atN 1 (ctl1 g52p19))) (by kernel_rfl) ?_
              let E19 : Env := ((101, .bool (decide (x1_3 = 98))) :: (100, .int .u8 98) :: (99, .int .i32 98) :: (98, .int .u8 x1_3) :: (10, .int .i32 98) :: (9, .int .i64 0) :: (97, .int .i32 98) :: (96, .int .i64 0) :: (95, .bool true) :: (94, .tuple [.bool true, .int .i64 0, .int .i32 98]) :: (93, .top) :: E18)
              refine okI_run 20 (p' := g52p29) (env' := E19) (H' := (mkH [])) (by kernel_rfl) ?_
              refine okI_split 101 (b := decide (x1_3 = 98)) (by kernel_rfl) (fun hb => ?_) (fun hb => ?_)
              · let E20 : Env := ((5, .int .i64 2) :: (4, .int .i64 8) :: (104, .int .i64 8) :: (103, .int .i64 0) :: (102, .agg [.int .i64 8, .int .i64 127, .int .i64 27, .int .i64 12, .int .i64 10, .int .i64 13, .int .i64 32, .int .i64 9, .int .i64 11]) :: (101, .bool true) :: E19)
                refine okI_run 10 (p' := .fin) (env' := E20) (H' := (mkH [])) (by kernel_rfl) ?_
                refine okI_drop ?_
                exact ok_ret (r := ((8 : Int), (2 : Int))) (xs := [.int .i64 8, .int .i64 2]) (v := .tuple [.int .i64 8, .int .i64 2]) (by kernel_rfl) (by kernel_rfl) (by kernel_rfl) (.pures (by kernel_rfl)) (by kernel_rfl)
              · refine okI_run 2 (p' := g52p17) (env' := ((101, .bool false) :: E19)) (H' := (mkH [])) (by kernel_rfl) ?_
                refine okI_ent (p' := nav [0] g52p17) (by kernel_rfl) ?_
                refine okI_run 2 (p' := (atN 0 (ctl1 g52p19))) (env' := ((101, .bool false) :: E19)) (H' := (mkH [])) (by kernel_rfl) ?_
                refine okI_next 94 (by kernel_rfl) rfl 100 1 (by kernel_rfl) ?_
                refine okI_at (p' := (atN 1 (ctl1 g52p19))) (by kernel_rfl) ?_
                let E21 : Env := ((101, .bool (decide (x1_3 = 100))) :: (100, .int .u8 100) :: (99, .int .i32 100) :: (98, .int .u8 x1_3) :: (10, .int .i32 100) :: (9, .int .i64 1) :: (97, .int .i32 100) :: (96, .int .i64 1) :: (95, .bool true) :: (94, .tuple [.bool true, .int .i64 1, .int .i32 100]) :: (101, .bool false) :: E19)
                refine okI_run 20 (p' := g52p29) (env' := E21) (H' := (mkH [])) (by kernel_rfl) ?_
                refine okI_split 101 (b := decide (x1_3 = 100)) (by kernel_rfl) (fun hb => ?_) (fun hb => ?_)
                · let E22 : Env := ((5, .int .i64 2) :: (4, .int .i64 127) :: (104, .int .i64 127) :: (103, .int .i64 1) :: (102, .agg [.int .i64 8, .int .i64 127, .int .i64 27, .int .i64 12, .int .i64 10, .int .i64 13, .int .i64 32, .int .i64 9, .int .i64 11]) :: (101, .bool true) :: E21)
                  refine okI_run 10 (p' := .fin) (env' := E22) (H' := (mkH [])) (by kernel_rfl) ?_
                  refine okI_drop ?_
                  exact ok_ret (r := ((127 : Int), (2 : Int))) (xs := [.int .i64 127, .int .i64 2]) (v := .tuple [.int .i64 127, .int .i64 2]) (by kernel_rfl) (by kernel_rfl) (by kernel_rfl) (.pures (by kernel_rfl)) (by kernel_rfl)
                · refine okI_run 2 (p' := g52p17) (env' := ((101, .bool false) :: E21)) (H' := (mkH [])) (by kernel_rfl) ?_
                  refine okI_ent (p' := nav [0] g52p17) (by kernel_rfl) ?_
                  refine okI_run 2 (p' := (atN 0 (ctl1 g52p19))) (env' := ((101, .bool false) :: E21)) (H' := (mkH [])) (by kernel_rfl) ?_
                  refine okI_next 94 (by kernel_rfl) rfl 101 1 (by kernel_rfl) ?_
                  refine okI_at (p' := (atN 1 (ctl1 g52p19))) (by kernel_rfl) ?_
                  let E23 : Env := ((101, .bool (decide (x1_3 = 101))) :: (100, .int .u8 101) :: (99, .int .i32 101) :: (98, .int .u8 x1_3) :: (10, .int .i32 101) :: (9, .int .i64 2) :: (97, .int .i32 101) :: (96, .int .i64 2) :: (95, .bool true) :: (94, .tuple [.bool true, .int .i64 2, .int .i32 101]) :: (101, .bool false) :: E21)
                  refine okI_run 20 (p' := g52p29) (env' := E23) (H' := (mkH [])) (by kernel_rfl) ?_
                  refine okI_split 101 (b := decide (x1_3 = 101)) (by kernel_rfl) (fun hb => ?_) (fun hb => ?_)
                  · let E24 : Env := ((5, .int .i64 2) :: (4, .int .i64 27) :: (104, .int .i64 27) :: (103, .int .i64 2) :: (102, .agg [.int .i64 8, .int .i64 127, .int .i64 27, .int .i64 12, .int .i64 10, .int .i64 13, .int .i64 32, .int .i64 9, .int .i64 11]) :: (101, .bool true) :: E23)
                    refine okI_run 10 (p' := .fin) (env' := E24) (H' := (mkH [])) (by kernel_rfl) ?_
                    refine okI_drop ?_
                    exact ok_ret (r := ((27 : Int), (2 : Int))) (xs := [.int .i64 27, .int .i64 2]) (v := .tuple [.int .i64 27, .int .i64 2]) (by kernel_rfl) (by kernel_rfl) (by kernel_rfl) (.pures (by kernel_rfl)) (by kernel_rfl)
                  · refine okI_run 2 (p' := g52p17) (env' := ((101, .bool false) :: E23)) (H' := (mkH [])) (by kernel_rfl) ?_
                    refine okI_ent (p' := nav [0] g52p17) (by kernel_rfl) ?_
                    refine okI_run 2 (p' := (atN 0 (ctl1 g52p19))) (env' := ((101, .bool false) :: E23)) (H' := (mkH [])) (by kernel_rfl) ?_
                    refine okI_next 94 (by kernel_rfl) rfl 102 1 (by kernel_rfl) ?_
                    refine okI_at (p' := (atN 1 (ctl1 g52p19))) (by kernel_rfl) ?_
                    let E25 : Env := ((101, .bool (decide (x1_3 = 102))) :: (100, .int .u8 102) :: (99, .int .i32 102) :: (98, .int .u8 x1_3) :: (10, .int .i32 102) :: (9, .int .i64 3) :: (97, .int .i32 102) :: (96, .int .i64 3) :: (95, .bool true) :: (94, .tuple [.bool true, .int .i64 3, .int .i32 102]) :: (101, .bool false) :: E23)
                    refine okI_run 20 (p' := g52p29) (env' := E25) (H' := (mkH [])) (by kernel_rfl) ?_
                    refine okI_split 101 (b := decide (x1_3 = 102)) (by kernel_rfl) (fun hb => ?_) (fun hb => ?_)
                    · let E26 : Env := ((5, .int .i64 2) :: (4, .int .i64 12) :: (104, .int .i64 12) :: (103, .int .i64 3) :: (102, .agg [.int .i64 8, .int .i64 127, .int .i64 27, .int .i64 12, .int .i64 10, .int .i64 13, .int .i64 32, .int .i64 9, .int .i64 11]) :: (101, .bool true) :: E25)
                      refine okI_run 10 (p' := .fin) (env' := E26) (H' := (mkH [])) (by kernel_rfl) ?_
                      refine okI_drop ?_
                      exact ok_ret (r := ((12 : Int), (2 : Int))) (xs := [.int .i64 12, .int .i64 2]) (v := .tuple [.int .i64 12, .int .i64 2]) (by kernel_rfl) (by kernel_rfl) (by kernel_rfl) (.pures (by kernel_rfl)) (by kernel_rfl)
                    · refine okI_run 2 (p' := g52p17) (env' := ((101, .bool false) :: E25)) (H' := (mkH [])) (by kernel_rfl) ?_
                      refine okI_ent (p' := nav [0] g52p17) (by kernel_rfl) ?_
                      refine okI_run 2 (p' := (atN 0 (ctl1 g52p19))) (env' := ((101, .bool false) :: E25)) (H' := (mkH [])) (by kernel_rfl) ?_
                      refine okI_next 94 (by kernel_rfl) rfl 110 1 (by kernel_rfl) ?_
                      refine okI_at (p' := (atN 1 (ctl1 g52p19))) (by kernel_rfl) ?_
                      let E27 : Env := ((101, .bool (decide (x1_3 = 110))) :: (100, .int .u8 110) :: (99, .int .i32 110) :: (98, .int .u8 x1_3) :: (10, .int .i32 110) :: (9, .int .i64 4) :: (97, .int .i32 110) :: (96, .int .i64 4) :: (95, .bool true) :: (94, .tuple [.bool true, .int .i64 4, .int .i32 110]) :: (101, .bool false) :: E25)
                      refine okI_run 20 (p' := g52p29) (env' := E27) (H' := (mkH [])) (by kernel_rfl) ?_
                      refine okI_split 101 (b := decide (x1_3 = 110)) (by kernel_rfl) (fun hb => ?_) (fun hb => ?_)
                      · let E28 : Env := ((5, .int .i64 2) :: (4, .int .i64 10) :: (104, .int .i64 10) :: (103, .int .i64 4) :: (102, .agg [.int .i64 8, .int .i64 127, .int .i64 27, .int .i64 12, .int .i64 10, .int .i64 13, .int .i64 32, .int .i64 9, .int .i64 11]) :: (101, .bool true) :: E27)
                        refine okI_run 10 (p' := .fin) (env' := E28) (H' := (mkH [])) (by kernel_rfl) ?_
                        refine okI_drop ?_
                        exact ok_ret (r := ((10 : Int), (2 : Int))) (xs := [.int .i64 10, .int .i64 2]) (v := .tuple [.int .i64 10, .int .i64 2]) (by kernel_rfl) (by kernel_rfl) (by kernel_rfl) (.pures (by kernel_rfl)) (by kernel_rfl)
                      · refine okI_run 2 (p' := g52p17) (env' := ((101, .bool false) :: E27)) (H' := (mkH [])) (by kernel_rfl) ?_
                        refine okI_ent (p' := nav [0] g52p17) (by kernel_rfl) ?_
                        refine okI_run 2 (p' := (atN 0 (ctl1 g52p19))) (env' := ((101, .bool false) :: E27)) (H' := (mkH [])) (by kernel_rfl) ?_
                        refine okI_next 94 (by kernel_rfl) rfl 114 1 (by kernel_rfl) ?_
                        refine okI_at (p' := (atN 1 (ctl1 g52p19))) (by kernel_rfl) ?_
                        let E29 : Env := ((101, .bool (decide (x1_3 = 114))) :: (100, .int .u8 114) :: (99, .int .i32 114) :: (98, .int .u8 x1_3) :: (10, .int .i32 114) :: (9, .int .i64 5) :: (97, .int .i32 114) :: (96, .int .i64 5) :: (95, .bool true) :: (94, .tuple [.bool true, .int .i64 5, .int .i32 114]) :: (101, .bool false) :: E27)
                        refine okI_run 20 (p' := g52p29) (env' := E29) (H' := (mkH [])) (by kernel_rfl) ?_
                        refine okI_split 101 (b := decide (x1_3 = 114)) (by kernel_rfl) (fun hb => ?_) (fun hb => ?_)
                        · let E30 : Env := ((5, .int .i64 2) :: (4, .int .i64 13) :: (104, .int .i64 13) :: (103, .int .i64 5) :: (102, .agg [.int .i64 8, .int .i64 127, .int .i64 27, .int .i64 12, .int .i64 10, .int .i64 13, .int .i64 32, .int .i64 9, .int .i64 11]) :: (101, .bool true) :: E29)
                          refine okI_run 10 (p' := .fin) (env' := E30) (H' := (mkH [])) (by kernel_rfl) ?_
                          refine okI_drop ?_
                          exact ok_ret (r := ((13 : Int), (2 : Int))) (xs := [.int .i64 13, .int .i64 2]) (v := .tuple [.int .i64 13, .int .i64 2]) (by kernel_rfl) (by kernel_rfl) (by kernel_rfl) (.pures (by kernel_rfl)) (by kernel_rfl)
                        · refine okI_run 2 (p' := g52p17) (env' := ((101, .bool false) :: E29)) (H' := (mkH [])) (by kernel_rfl) ?_
                          refine okI_ent (p' := nav [0] g52p17) (by kernel_rfl) ?_
                          refine okI_run 2 (p' := (atN 0 (ctl1 g52p19))) (env' := ((101, .bool false) :: E29)) (H' := (mkH [])) (by kernel_rfl) ?_
                          refine okI_next 94 (by kernel_rfl) rfl 115 1 (by kernel_rfl) ?_
                          refine okI_at (p' := (atN 1 (ctl1 g52p19))) (by kernel_rfl) ?_
                          let E31 : Env := ((101, .bool (decide (x1_3 = 115))) :: (100, .int .u8 115) :: (99, .int .i32 115) :: (98, .int .u8 x1_3) :: (10, .int .i32 115) :: (9, .int .i64 6) :: (97, .int .i32 115) :: (96, .int .i64 6) :: (95, .bool true) :: (94, .tuple [.bool true, .int .i64 6, .int .i32 115]) :: (101, .bool false) :: E29)
                          refine okI_run 20 (p' := g52p29) (env' := E31) (H' := (mkH [])) (by kernel_rfl) ?_
                          refine okI_split 101 (b := decide (x1_3 = 115)) (by kernel_rfl) (fun hb => ?_) (fun hb => ?_)
                          · let E32 : Env := ((5, .int .i64 2) :: (4, .int .i64 32) :: (104, .int .i64 32) :: (103, .int .i64 6) :: (102, .agg [.int .i64 8, .int .i64 127, .int .i64 27, .int .i64 12, .int .i64 10, .int .i64 13, .int .i64 32, .int .i64 9, .int .i64 11]) :: (101, .bool true) :: E31)
                            refine okI_run 10 (p' := .fin) (env' := E32) (H' := (mkH [])) (by kernel_rfl) ?_
                            refine okI_drop ?_
                            exact ok_ret (r := ((32 : Int), (2 : Int))) (xs := [.int .i64 32, .int .i64 2]) (v := .tuple [.int .i64 32, .int .i64 2]) (by kernel_rfl) (by kernel_rfl) (by kernel_rfl) (.pures (by kernel_rfl)) (by kernel_rfl)
                          · refine okI_run 2 (p' := g52p17) (env' := ((101, .bool false) :: E31)) (H' := (mkH [])) (by kernel_rfl) ?_
                            refine okI_ent (p' := nav [0] g52p17) (by kernel_rfl) ?_
                            refine okI_run 2 (p' := (atN 0 (ctl1 g52p19))) (env' := ((101, .bool false) :: E31)) (H' := (mkH [])) (by kernel_rfl) ?_
                            refine okI_next 94 (by kernel_rfl) rfl 116 1 (by kernel_rfl) ?_
                            refine okI_at (p' := (atN 1 (ctl1 g52p19))) (by kernel_rfl) ?_
                            let E33 : Env := ((101, .bool (decide (x1_3 = 116))) :: (100, .int .u8 116) :: (99, .int .i32 116) :: (98, .int .u8 x1_3) :: (10, .int .i32 116) :: (9, .int .i64 7) :: (97, .int .i32 116) :: (96, .int .i64 7) :: (95, .bool true) :: (94, .tuple [.bool true, .int .i64 7, .int .i32 116]) :: (101, .bool false) :: E31)
                            refine okI_run 20 (p' := g52p29) (env' := E33) (H' := (mkH [])) (by kernel_rfl) ?_
                            refine okI_split 101 (b := decide (x1_3 = 116)) (by kernel_rfl) (fun hb => ?_) (fun hb => ?_)
                            · let E34 : Env := ((5, .int .i64 2) :: (4, .int .i64 9) :: (104, .int .i64 9) :: (103, .int .i64 7) :: (102, .agg [.int .i64 8, .int .i64 127, .int .i64 27, .int .i64 12, .int .i64 10, .int .i64 13, .int .i64 32, .int .i64 9, .int .i64 11]) :: (101, .bool true) :: E33)
                              refine okI_run 10 (p' := .fin) (env' := E34) (H' := (mkH [])) (by kernel_rfl) ?_
                              refine okI_drop ?_
                              exact ok_ret (r := ((9 : Int), (2 : Int))) (xs := [.int .i64 9, .int .i64 2]) (v := .tuple [.int .i64 9, .int .i64 2]) (by kernel_rfl) (by kernel_rfl) (by kernel_rfl) (.pures (by kernel_rfl)) (by kernel_rfl)
                            · refine okI_run 2 (p' := g52p17) (env' := ((101, .bool false) :: E33)) (H' := (mkH [])) (by kernel_rfl) ?_
                              refine okI_ent (p' := nav [0] g52p17) (by kernel_rfl) ?_
                              refine okI_run 2 (p' := (atN 0 (ctl1 g52p19))) (env' := ((101, .bool false) :: E33)) (H' := (mkH [])) (by kernel_rfl) ?_
                              refine okI_next 94 (by kernel_rfl) rfl 118 1 (by kernel_rfl) ?_
                              refine okI_at (p' := (atN 1 (ctl1 g52p19))) (by kernel_rfl) ?_
                              let E35 : Env := ((101, .bool (decide (x1_3 = 118))) :: (100, .int .u8 118) :: (99, .int .i32 118) :: (98, .int .u8 x1_3) :: (10, .int .i32 118) :: (9, .int .i64 8) :: (97, .int .i32 118) :: (96, .int .i64 8) :: (95, .bool true) :: (94, .tuple [.bool true, .int .i64 8, .int .i32 118]) :: (101, .bool false) :: E33)
                              refine okI_run 20 (p' := g52p29) (env' := E35) (H' := (mkH [])) (by kernel_rfl) ?_
                              refine okI_split 101 (b := decide (x1_3 = 118)) (by kernel_rfl) (fun hb => ?_) (fun hb => ?_)
                              · let E36 : Env := ((5, .int .i64 2) :: (4, .int .i64 11) :: (104, .int .i64 11) :: (103, .int .i64 8) :: (102, .agg [.int .i64 8, .int .i64 127, .int .i64 27, .int .i64 12, .int .i64 10, .int .i64 13, .int .i64 32, .int .i64 9, .int .i64 11]) :: (101, .bool true) :: E35)
                                refine okI_run 10 (p' := .fin) (env' := E36) (H' := (mkH [])) (by kernel_rfl) ?_
                                refine okI_drop ?_
                                exact ok_ret (r := ((11 : Int), (2 : Int))) (xs := [.int .i64 11, .int .i64 2]) (v := .tuple [.int .i64 11, .int .i64 2]) (by kernel_rfl) (by kernel_rfl) (by kernel_rfl) (.pures (by kernel_rfl)) (by kernel_rfl)
                              · refine okI_run 2 (p' := g52p17) (env' := ((101, .bool false) :: E35)) (H' := (mkH [])) (by kernel_rfl) ?_
                                refine okI_ent (p' := nav [0] g52p17) (by kernel_rfl) ?_
                                refine okI_run 2 (p' := (atN 0 (ctl1 g52p19))) (env' := ((101, .bool false) :: E35)) (H' := (mkH [])) (by kernel_rfl) ?_
                                refine okI_over 94 (by kernel_rfl) rfl ?_
                                refine okI_drop ?_
                                refine ok_at (p' := (atN 1 (ctl1 g52p19))) (by kernel_rfl) ?_
                                refine ok_run 3 (p' := g52p21) (env' := ((95, .bool false) :: (94, .tuple [.bool false]) :: (101, .bool false) :: E35)) (H' := (mkH [])) (by kernel_rfl) ?_
                                refine ok_keep [0, 1, 6, 94, 95] (env' := [(0, .str a0), (1, .int .i64 a1), (6, .int .u8 x1_3), (94, .tuple [.bool false]), (95, .bool false)]) (by kernel_rfl) ?_
                                let E37 : Env := [(108, .int .i64 (fwrap .i64 (a1 + 1))), (107, .int .i64 a1), (106, .str a0), (0, .str a0), (1, .int .i64 a1), (6, .int .u8 x1_3), (94, .tuple [.bool false]), (95, .bool false)]
                                refine ok_run 7 (p' := (atN 3 (ctl1 g52p25))) (env' := E37) (H' := (mkH [])) (by kernel_rfl) ?_
                                refine ok_call (fun (x4_3 : (Int × Int)) => .tuple [.int .i64 x4_3.1, .int .i64 x4_3.2]) (atN 4 (ctl1 g52p25)) (fun x4_3 => ((109, .tuple [.int .i64 x4_3.1, .int .i64 x4_3.2]) :: E37)) (fi := 31) (args := [.str a0, .int .i64 (fwrap .i64 (a1 + 1))]) (by kernel_rfl) (by kernel_rfl) (fun _ => by kernel_rfl) (fun r h => g31_ok k a0 (fwrap .i64 (a1 + 1)) r h) (fun _ => by kernel_rfl) (fun x4_3 hx4_3 => ?_)
                                let E38 : Env := ((12, .int .i64 x4_3.2) :: (11, .int .i64 x4_3.1) :: (111, .int .i64 x4_3.2) :: (110, .int .i64 x4_3.1) :: (105, .tuple [.int .i64 x4_3.1, .int .i64 x4_3.2]) :: (109, .tuple [.int .i64 x4_3.1, .int .i64 x4_3.2]) :: E37)
                                refine ok_run 8 (p' := g52p28) (env' := E38) (H' := (mkH [])) (by kernel_rfl) ?_
                                refine ok_keep [11, 12] (env' := [(11, .int .i64 x4_3.1), (12, .int .i64 x4_3.2)]) (by kernel_rfl) ?_
                                refine ok_run 4 (p' := g52p30) (env' := [(113, .bool (decide (x4_3.1 < 32))), (112, .int .i64 x4_3.1), (11, .int .i64 x4_3.1), (12, .int .i64 x4_3.2)]) (H' := (mkH [])) (by kernel_rfl) ?_
                                refine ok_split 113 (b := decide (x4_3.1 < 32)) (by kernel_rfl) (fun hb => ?_) (fun hb => ?_)
                                · let E39 : Env := [(5, .int .i64 0), (4, .int .i64 (-1)), (113, .bool true), (113, .bool (decide (x4_3.1 < 32))), (112, .int .i64 x4_3.1), (11, .int .i64 x4_3.1), (12, .int .i64 x4_3.2)]
                                  refine ok_run 7 (p' := .fin) (env' := E39) (H' := (mkH [])) (by kernel_rfl) ?_
                                  exact ok_ret (r := (((-1) : Int), (0 : Int))) (xs := [.int .i64 (-1), .int .i64 0]) (v := .tuple [.int .i64 (-1), .int .i64 0]) (by kernel_rfl) (by kernel_rfl) (by kernel_rfl) (.pures (by kernel_rfl)) (by kernel_rfl)
                                · let E40 : Env := [(5, .int .i64 (fwrap .i64 (x4_3.2 + 1))), (4, .int .i64 x4_3.1), (116, .int .i64 (fwrap .i64 (x4_3.2 + 1))), (115, .int .i64 x4_3.2), (114, .int .i64 x4_3.1), (113, .bool false), (113, .bool (decide (x4_3.1 < 32))), (112, .int .i64 x4_3.1), (11, .int .i64 x4_3.1), (12, .int .i64 x4_3.2)]
                                  refine ok_run 11 (p' := .fin) (env' := E40) (H' := (mkH [])) (by kernel_rfl) ?_
                                  exact ok_ret (r := (x4_3.1, fwrap .i64 (x4_3.2 + 1))) (xs := [.int .i64 x4_3.1, .int .i64 (fwrap .i64 (x4_3.2 + 1))]) (v := .tuple [.int .i64 x4_3.1, .int .i64 (fwrap .i64 (x4_3.2 + 1))]) (by kernel_rfl) (by kernel_rfl) (by kernel_rfl) (.pures (by kernel_rfl)) (by kernel_rfl)
          · refine ok_split 57 (b := decide (48 ≤ x1_3)) (by kernel_rfl) (fun hb => ?_) (fun hb => ?_)
            · let E41 : Env := ((54, .bool (decide (x1_3 ≤ 55))) :: (60, .bool (decide (x1_3 ≤ 55))) :: (59, .bool (decide (x1_3 ≤ 55))) :: (58, .int .u8 x1_3) :: (57, .bool true) :: (57, .bool (decide (48 ≤ x1_3))) :: (56, .bool (decide (48 ≤ x1_3))) :: (55, .int .u8 x1_3) :: (46, .bool false) :: E7)
              refine ok_run 5 (p' := g52p13) (env' := E41) (H' := (mkH [])) (by kernel_rfl) ?_
              refine ok_keep [0, 1, 6, 54] (env' := [(0, .str a0), (1, .int .i64 a1), (6, .int .u8 x1_3), (54, .bool (decide (x1_3 ≤ 55)))]) (by kernel_rfl) ?_
              exact hj8 (decide (x1_3 ≤ 55))
            · let E42 : Env := ((54, .bool false) :: (60, .bool false) :: (59, .tuple []) :: (58, .tuple []) :: (57, .bool false) :: (57, .bool (decide (48 ≤ x1_3))) :: (56, .bool (decide (48 ≤ x1_3))) :: (55, .int .u8 x1_3) :: (46, .bool false) :: E7)
              refine ok_run 5 (p' := g52p13) (env' := E42) (H' := (mkH [])) (by kernel_rfl) ?_
              refine ok_keep [0, 1, 6, 54] (env' := [(0, .str a0), (1, .int .i64 a1), (6, .int .u8 x1_3), (54, .bool false)]) (by kernel_rfl) ?_
              exact hj8 false
  · refine ok_split 15 (b := decide (a1 < 0)) (by kernel_rfl) (fun hb => ?_) (fun hb => ?_)
    · let E43 : Env := ((33, .bool true) :: (32, .tuple []) :: (31, .tuple []) :: (30, .tuple []) :: (29, .tuple []) :: (28, .tuple []) :: (27, .bool true) :: (26, .bool true) :: (25, .tuple []) :: (24, .tuple []) :: (23, .tuple []) :: (22, .tuple []) :: (21, .bool true) :: (20, .bool true) :: (19, .tuple []) :: (18, .tuple []) :: (17, .tuple []) :: (16, .tuple []) :: (15, .bool true) :: E1)
      refine ok_run 19 (p' := g52p2) (env' := E43) (H' := (mkH [])) (by kernel_rfl) ?_
      refine ok_keep [0, 1, 33] (env' := [(0, .str a0), (1, .int .i64 a1), (33, .bool true)]) (by kernel_rfl) ?_
      exact hj7 true
    · let E44 : Env := ((21, .bool (decide ((a0.length : Int) ≤ a1))) :: (20, .bool (decide ((a0.length : Int) ≤ a1))) :: (19, .bool (decide ((a0.length : Int) ≤ a1))) :: (18, .int .i64 (a0.length : Int)) :: (17, .str a0) :: (16, .int .i64 a1) :: (15, .bool false) :: E1)
      refine ok_run 6 (p' := (atN 9 (ctl1 g52p1))) (env' := E44) (H' := (mkH [])) (by kernel_rfl) ?_
      refine ok_split 21 (b := decide ((a0.length : Int) ≤ a1)) (by kernel_rfl) (fun hb => ?_) (fun hb => ?_)
      · let E45 : Env := ((33, .bool true) :: (32, .tuple []) :: (31, .tuple []) :: (30, .tuple []) :: (29, .tuple []) :: (28, .tuple []) :: (27, .bool true) :: (26, .bool true) :: (25, .tuple []) :: (24, .tuple []) :: (23, .tuple []) :: (22, .tuple []) :: (21, .bool true) :: E44)
        refine ok_run 13 (p' := g52p2) (env' := E45) (H' := (mkH [])) (by kernel_rfl) ?_
        refine ok_keep [0, 1, 33] (env' := [(0, .str a0), (1, .int .i64 a1), (33, .bool true)]) (by kernel_rfl) ?_
        exact hj7 true
      · refine ok_run 2 (p' := (atN 11 (ctl1 g52p1))) (env' := ((23, .int .i64 a1) :: (22, .str a0) :: (21, .bool false) :: E44)) (H' := (mkH [])) (by kernel_rfl) ?_
        refine ok_chk (fun (x0_11 : Int) => (.int .u8 x0_11, (mkH []))) (atN 12 (ctl1 g52p1)) (fun x0_11 => ((24, .int .u8 x0_11) :: (23, .int .i64 a1) :: (22, .str a0) :: (21, .bool false) :: E44)) (idxH (by kernel_rfl)) (fun _ => by kernel_rfl) (fun x0_11 hx0_11 => ?_)
        let E46 : Env := ((27, .bool (!decide (x0_11 = 92))) :: (26, .bool (!decide (x0_11 = 92))) :: (25, .bool (!decide (x0_11 = 92))) :: (24, .int .u8 x0_11) :: (23, .int .i64 a1) :: (22, .str a0) :: (21, .bool false) :: E44)
        refine ok_run 3 (p' := (atN 15 (ctl1 g52p1))) (env' := E46) (H' := (mkH [])) (by kernel_rfl) ?_
        refine ok_split 27 (b := !decide (x0_11 = 92)) (by kernel_rfl) (fun hb => ?_) (fun hb => ?_)
        · let E47 : Env := ((33, .bool true) :: (32, .tuple []) :: (31, .tuple []) :: (30, .tuple []) :: (29, .tuple []) :: (28, .tuple []) :: (27, .bool true) :: E46)
          refine ok_run 7 (p' := g52p2) (env' := E47) (H' := (mkH [])) (by kernel_rfl) ?_
          refine ok_keep [0, 1, 33] (env' := [(0, .str a0), (1, .int .i64 a1), (33, .bool true)]) (by kernel_rfl) ?_
          exact hj7 true
        · let E48 : Env := ((33, .bool (decide ((a0.length : Int) ≤ fwrap .i64 (a1 + 1)))) :: (32, .bool (decide ((a0.length : Int) ≤ fwrap .i64 (a1 + 1)))) :: (31, .int .i64 (a0.length : Int)) :: (30, .str a0) :: (29, .int .i64 (fwrap .i64 (a1 + 1))) :: (28, .int .i64 a1) :: (27, .bool false) :: E46)
          refine ok_run 7 (p' := g52p2) (env' := E48) (H' := (mkH [])) (by kernel_rfl) ?_
          refine ok_keep [0, 1, 33] (env' := [(0, .str a0), (1, .int .i64 a1), (33, .bool (decide ((a0.length : Int) ≤ fwrap .i64 (a1 + 1))))]) (by kernel_rfl) ?_
          exact hj7 (decide ((a0.length : Int) ≤ fwrap .i64 (a1 + 1)))
end Go.Proofs.Ytokcjgjgojlhbaa.Am
