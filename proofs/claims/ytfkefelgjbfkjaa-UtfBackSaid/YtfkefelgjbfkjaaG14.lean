/- Function 14, plain, and that the program computes it. Printed by gen.py. -/
import Derived.Test.YtfkefelgjbfkjaaTy
import Derived.Test.YtfkefelgjbfkjaaG34
set_option maxRecDepth 100000
set_option linter.unusedVariables false
namespace Go.Proofs.Ytfkefelgjbfkjaa.Am
open Go

/-! 14 galley/galleyref1.Next -/
noncomputable def X14 : Fx (Int × Int) := ⟨Try.prog, cx, Try.f14, fun r => .tuple [.int .i64 r.1, .int .i64 r.2], 0, fun _ => H0, cxTi, cxOrd⟩
noncomputable def g14p0 : Pt := nav [0] (bodyAt Try.f14)
noncomputable def g14p1 : Pt := nav [0, 0, 0, 0] g14p0
noncomputable def g14p2 : Pt := nav [0, 0] g14p1
noncomputable def g14p3 : Pt := nav [1, 0] g14p2
noncomputable def g14p4 : Pt := nav [2, 0, 0] g14p2
noncomputable def g14p6 : Pt := nav [0, 0, 0] g14p4
noncomputable def g14p7 : Pt := nav [0, 0, 0, 0, 0] g14p6
noncomputable def g14p8 : Pt := nav [0, 0] g14p7
noncomputable def g14p9 : Pt := nav [1, 0] g14p8
noncomputable def g14p10 : Pt := nav [2, 0] g14p8
noncomputable def g14p11 : Pt := nav [0, 0] g14p10
noncomputable def g14p12 : Pt := nav [1] g14p11
noncomputable def g14p13 : Pt := nav [2, 0] g14p11
noncomputable def g14p14 : Pt := nav [0, 0, 0, 0] g14p12
noncomputable def g14p15 : Pt := nav [0, 0] g14p13
noncomputable def g14p16 : Pt := nav [0, 0] g14p14
noncomputable def g14p17 : Pt := nav [1] g14p15
noncomputable def g14p18 : Pt := nav [2, 0] g14p15
noncomputable def g14p19 : Pt := nav [1, 0] g14p16
noncomputable def g14p20 : Pt := nav [2, 0, 0, 0] g14p16
noncomputable def g14p21 : Pt := nav [0, 0] g14p18
noncomputable def g14p22 : Pt := nav [0, 0, 0, 0] g14p20
noncomputable def g14p23 : Pt := nav [1] g14p21
noncomputable def g14p24 : Pt := nav [2, 0] g14p21
noncomputable def g14p25 : Pt := nav [0, 0, 0] g14p22
noncomputable def g14p26 : Pt := nav [0, 0] g14p25
noncomputable def g14p27 : Pt := nav [1, 0, 0, 0, 0, 0] g14p26
noncomputable def g14p28 : Pt := nav [2, 0, 0, 0] g14p26
noncomputable def g14p29 : Pt := nav [0, 0] g14p27
noncomputable def g14p30 : Pt := nav [0, 0] g14p28
noncomputable def g14p31 : Pt := nav [1, 0] g14p29
noncomputable def g14p32 : Pt := nav [2, 0] g14p29
noncomputable def g14p33 : Pt := nav [1, 0] g14p30
noncomputable def g14p34 : Pt := nav [2, 0, 0] g14p30
noncomputable def g14p35 : Pt := nav [0, 0] g14p32
noncomputable def g14_l9 (k : Nat)  (a0 : (List Nat)) (a1 : Int) (z6 : Int × Int × Int) (n : Nat) : Int → Int → Option (Int × Int) :=
  Nat.rec (motive := fun _ => Int → Int → Option (Int × Int)) (fun _ _ => none) (fun _ ih => fun (y9_0 : Int) (y9_1 : Int) => if (decide (y9_1 < z6.2.1)) then ((nthS a0 (fwrap .i64 (a1 + y9_1))).bind fun x1_4 => if (!decide (andI .u8 x1_4 192 = 128)) then (some (((-1) : Int), (1 : Int))) else ((nthS a0 (fwrap .i64 (a1 + y9_1))).bind fun x2_6 => ih (fwrap .i64 (fwrap .i64 (y9_0 * 64) + fwrap .i64 (andI .u8 x2_6 63))) (fwrap .i64 (y9_1 + 1)))) else (jn (fun (z10 : Bool × Int) => if z10.1 then (some (((-1) : Int), (1 : Int))) else (some (z10.2, z6.2.1))) (fun j10 => if (decide (y9_0 < z6.2.2)) then (j10 (true, y9_0)) else ((g34 k y9_0).bind fun x3_5 => j10 (!x3_5, y9_0))))) n
theorem g14_l9_s (k : Nat)  (a0 : (List Nat)) (a1 : Int) (z6 : Int × Int × Int) (n : Nat) (y9_0 : Int) (y9_1 : Int) : g14_l9 k a0 a1 z6 (n + 1) y9_0 y9_1 = (if (decide (y9_1 < z6.2.1)) then ((nthS a0 (fwrap .i64 (a1 + y9_1))).bind fun x1_4 => if (!decide (andI .u8 x1_4 192 = 128)) then (some (((-1) : Int), (1 : Int))) else ((nthS a0 (fwrap .i64 (a1 + y9_1))).bind fun x2_6 => (g14_l9 k a0 a1 z6 n) (fwrap .i64 (fwrap .i64 (y9_0 * 64) + fwrap .i64 (andI .u8 x2_6 63))) (fwrap .i64 (y9_1 + 1)))) else (jn (fun (z10 : Bool × Int) => if z10.1 then (some (((-1) : Int), (1 : Int))) else (some (z10.2, z6.2.1))) (fun j10 => if (decide (y9_0 < z6.2.2)) then (j10 (true, y9_0)) else ((g34 k y9_0).bind fun x3_5 => j10 (!x3_5, y9_0))))) := rfl
theorem g14_l9_ok (k : Nat)  (a0 : (List Nat)) (a1 : Int) (z6 : Int × Int × Int)  : ∀ (n : Nat) (y9_0 : Int) (y9_1 : Int), Ok X14 g14p22 [(0, .str a0), (1, .int .i64 a1), (6, .int .i64 y9_0), (7, .int .i64 z6.2.1), (8, .int .i64 z6.2.2), (9, .int .i64 y9_1)] (mkH []) (g14_l9 k a0 a1 z6 n y9_0 y9_1)
  | 0, _, _ => ok_none
  | n + 1, y9_0, y9_1 => by
    have ih := g14_l9_ok k a0 a1 z6 n
    rw [g14_l9_s]
    refine ok_ent (p' := nav [0] g14p22) (by kernel_rfl) ?_
    let E7 : Env := [(61, .bool (decide (y9_1 < z6.2.1))), (60, .int .i64 z6.2.1), (59, .int .i64 y9_1), (0, .str a0), (1, .int .i64 a1), (6, .int .i64 y9_0), (7, .int .i64 z6.2.1), (8, .int .i64 z6.2.2), (9, .int .i64 y9_1)]
    refine ok_run 7 (p' := g14p26) (env' := E7) (H' := (mkH [])) (by kernel_rfl) ?_
    refine ok_split 61 (b := decide (y9_1 < z6.2.1)) (by kernel_rfl) (fun hb => ?_) (fun hb => ?_)
    · let E8 : Env := ((67, .int .i64 (fwrap .i64 (a1 + y9_1))) :: (66, .int .i64 y9_1) :: (65, .int .i64 a1) :: (64, .str a0) :: (61, .bool true) :: E7)
      refine ok_run 11 (p' := (atN 4 (ctl1 g14p27))) (env' := E8) (H' := (mkH [])) (by kernel_rfl) ?_
      refine ok_chk (fun (x1_4 : Int) => (.int .u8 x1_4, (mkH []))) (atN 5 (ctl1 g14p27)) (fun x1_4 => ((68, .int .u8 x1_4) :: E8)) (idxH (by kernel_rfl)) (fun _ => by kernel_rfl) (fun x1_4 hx1_4 => ?_)
      refine ok_run 3 (p' := g14p29) (env' := ((70, .bool (!decide (andI .u8 x1_4 192 = 128))) :: (69, .int .u8 (andI .u8 x1_4 192)) :: (68, .int .u8 x1_4) :: E8)) (H' := (mkH [])) (by kernel_rfl) ?_
      refine ok_keep [0, 1, 6, 7, 8, 9, 70] (env' := [(0, .str a0), (1, .int .i64 a1), (6, .int .i64 y9_0), (7, .int .i64 z6.2.1), (8, .int .i64 z6.2.2), (9, .int .i64 y9_1), (70, .bool (!decide (andI .u8 x1_4 192 = 128)))]) (by kernel_rfl) ?_
      refine ok_split 70 (b := !decide (andI .u8 x1_4 192 = 128)) (by kernel_rfl) (fun hb => ?_) (fun hb => ?_)
      · let E9 : Env := [(5, .int .i64 1), (4, .int .i64 (-1)), (70, .bool true), (0, .str a0), (1, .int .i64 a1), (6, .int .i64 y9_0), (7, .int .i64 z6.2.1), (8, .int .i64 z6.2.2), (9, .int .i64 y9_1), (70, .bool (!decide (andI .u8 x1_4 192 = 128)))]
        refine ok_run 7 (p' := .fin) (env' := E9) (H' := (mkH [])) (by kernel_rfl) ?_
        exact ok_ret (r := (((-1) : Int), (1 : Int))) (xs := [.int .i64 (-1), .int .i64 1]) (v := .tuple [.int .i64 (-1), .int .i64 1]) (by kernel_rfl) (by kernel_rfl) (by kernel_rfl) (.pures (by kernel_rfl)) (by kernel_rfl)
      · let E10 : Env := [(76, .int .i64 (fwrap .i64 (a1 + y9_1))), (75, .int .i64 y9_1), (74, .int .i64 a1), (73, .str a0), (72, .int .i64 (fwrap .i64 (y9_0 * 64))), (71, .int .i64 y9_0), (70, .bool false), (0, .str a0), (1, .int .i64 a1), (6, .int .i64 y9_0), (7, .int .i64 z6.2.1), (8, .int .i64 z6.2.2), (9, .int .i64 y9_1), (70, .bool (!decide (andI .u8 x1_4 192 = 128)))]
        refine ok_run 9 (p' := (atN 6 (ctl1 g14p32))) (env' := E10) (H' := (mkH [])) (by kernel_rfl) ?_
        refine ok_chk (fun (x2_6 : Int) => (.int .u8 x2_6, (mkH []))) (atN 7 (ctl1 g14p32)) (fun x2_6 => ((77, .int .u8 x2_6) :: E10)) (idxH (by kernel_rfl)) (fun _ => by kernel_rfl) (fun x2_6 hx2_6 => ?_)
        let E11 : Env := ((6, .int .i64 (fwrap .i64 (fwrap .i64 (y9_0 * 64) + fwrap .i64 (andI .u8 x2_6 63)))) :: (80, .int .i64 (fwrap .i64 (fwrap .i64 (y9_0 * 64) + fwrap .i64 (andI .u8 x2_6 63)))) :: (79, .int .i64 (fwrap .i64 (andI .u8 x2_6 63))) :: (78, .int .u8 (andI .u8 x2_6 63)) :: (77, .int .u8 x2_6) :: E10)
        refine ok_run 5 (p' := g14p35) (env' := E11) (H' := (mkH [])) (by kernel_rfl) ?_
        refine ok_keep [0, 1, 6, 7, 8, 9] (env' := [(0, .str a0), (1, .int .i64 a1), (6, .int .i64 (fwrap .i64 (fwrap .i64 (y9_0 * 64) + fwrap .i64 (andI .u8 x2_6 63)))), (7, .int .i64 z6.2.1), (8, .int .i64 z6.2.2), (9, .int .i64 y9_1)]) (by kernel_rfl) ?_
        let E12 : Env := [(9, .int .i64 (fwrap .i64 (y9_1 + 1))), (63, .int .i64 (fwrap .i64 (y9_1 + 1))), (62, .int .i64 y9_1), (0, .str a0), (1, .int .i64 a1), (6, .int .i64 (fwrap .i64 (fwrap .i64 (y9_0 * 64) + fwrap .i64 (andI .u8 x2_6 63)))), (7, .int .i64 z6.2.1), (8, .int .i64 z6.2.2), (9, .int .i64 y9_1)]
        refine ok_run 5 (p' := g14p22) (env' := E12) (H' := (mkH [])) (by kernel_rfl) ?_
        refine ok_keep [0, 1, 6, 7, 8, 9] (env' := [(0, .str a0), (1, .int .i64 a1), (6, .int .i64 (fwrap .i64 (fwrap .i64 (y9_0 * 64) + fwrap .i64 (andI .u8 x2_6 63)))), (7, .int .i64 z6.2.1), (8, .int .i64 z6.2.2), (9, .int .i64 (fwrap .i64 (y9_1 + 1)))]) (by kernel_rfl) ?_
        exact ih (fwrap .i64 (fwrap .i64 (y9_0 * 64) + fwrap .i64 (andI .u8 x2_6 63))) (fwrap .i64 (y9_1 + 1))
    · let E13 : Env := ((84, .bool (decide (y9_0 < z6.2.2))) :: (83, .bool (decide (y9_0 < z6.2.2))) :: (82, .int .i64 z6.2.2) :: (81, .int .i64 y9_0) :: (61, .bool false) :: E7)
      refine ok_run 9 (p' := (atN 4 (ctl1 g14p28))) (env' := E13) (H' := (mkH [])) (by kernel_rfl) ?_
      refine ok_jn (f := fun (z10 : Bool × Int) => if z10.1 then (some (((-1) : Int), (1 : Int))) else (some (z10.2, z6.2.1))) g14p30 (fun (z10 : Bool × Int) => [(6, .int .i64 z10.2), (7, .int .i64 z6.2.1), (88, .bool z10.1)]) (fun (z10 : Bool × Int) => (mkH [])) (fun z10 => ?_) (fun j10 hj10 => ?_)
      · refine ok_split 88 (b := z10.1) (by kernel_rfl) (fun hb => ?_) (fun hb => ?_)
        · let E14 : Env := [(5, .int .i64 1), (4, .int .i64 (-1)), (88, .bool true), (6, .int .i64 z10.2), (7, .int .i64 z6.2.1), (88, .bool z10.1)]
          refine ok_run 7 (p' := .fin) (env' := E14) (H' := (mkH [])) (by kernel_rfl) ?_
          exact ok_ret (r := (((-1) : Int), (1 : Int))) (xs := [.int .i64 (-1), .int .i64 1]) (v := .tuple [.int .i64 (-1), .int .i64 1]) (by kernel_rfl) (by kernel_rfl) (by kernel_rfl) (.pures (by kernel_rfl)) (by kernel_rfl)
        · let E15 : Env := [(5, .int .i64 z6.2.1), (4, .int .i64 z10.2), (90, .int .i64 z6.2.1), (89, .int .i64 z10.2), (88, .bool false), (6, .int .i64 z10.2), (7, .int .i64 z6.2.1), (88, .bool z10.1)]
          refine ok_run 10 (p' := .fin) (env' := E15) (H' := (mkH [])) (by kernel_rfl) ?_
          exact ok_ret (r := (z10.2, z6.2.1)) (xs := [.int .i64 z10.2, .int .i64 z6.2.1]) (v := .tuple [.int .i64 z10.2, .int .i64 z6.2.1]) (by kernel_rfl) (by kernel_rfl) (by kernel_rfl) (.pures (by kernel_rfl)) (by kernel_rfl)
      · refine ok_split 84 (b := decide (y9_0 < z6.2.2)) (by kernel_rfl) (fun hb => ?_) (fun hb => ?_)
        · let E16 : Env := ((88, .bool true) :: (87, .tuple []) :: (86, .tuple []) :: (85, .tuple []) :: (84, .bool true) :: E13)
          refine ok_run 5 (p' := g14p30) (env' := E16) (H' := (mkH [])) (by kernel_rfl) ?_
          refine ok_keep [6, 7, 88] (env' := [(6, .int .i64 y9_0), (7, .int .i64 z6.2.1), (88, .bool true)]) (by kernel_rfl) ?_
          exact hj10 (true, y9_0)
        · refine ok_run 1 (p' := (atN 5 (ctl1 g14p28))) (env' := ((85, .int .i64 y9_0) :: (84, .bool false) :: E13)) (H' := (mkH [])) (by kernel_rfl) ?_
          refine ok_call (fun (x3_5 : Bool) => .bool x3_5) (atN 6 (ctl1 g14p28)) (fun x3_5 => ((86, .bool x3_5) :: (85, .int .i64 y9_0) :: (84, .bool false) :: E13)) (fi := 34) (args := [.int .i64 y9_0]) (by kernel_rfl) (by kernel_rfl) (fun _ => by kernel_rfl) (fun r h => g34_ok k y9_0 r h) (fun _ => by kernel_rfl) (fun x3_5 hx3_5 => ?_)
          let E17 : Env := ((88, .bool (!x3_5)) :: (87, .bool (!x3_5)) :: (86, .bool x3_5) :: (85, .int .i64 y9_0) :: (84, .bool false) :: E13)
          refine ok_run 3 (p' := g14p30) (env' := E17) (H' := (mkH [])) (by kernel_rfl) ?_
          refine ok_keep [6, 7, 88] (env' := [(6, .int .i64 y9_0), (7, .int .i64 z6.2.1), (88, .bool (!x3_5))]) (by kernel_rfl) ?_
          exact hj10 (!x3_5, y9_0)
noncomputable def g14 (k : Nat) (a0 : (List Nat)) (a1 : Int) : Option (Int × Int) :=
  jn (fun (z4 : Bool) => if z4 then (some ((0 : Int), (0 : Int))) else ((nthS a0 a1).bind fun x0_2 => if (decide (fwrap .i64 x0_2 < 128)) then (some (fwrap .i64 x0_2, (1 : Int))) else (jn (fun (z5 : Bool) => jn (fun (z6 : Int × Int × Int) => if (decide (fwrap .i64 ((a0.length : Int) - a1) < z6.2.1)) then (some (((-1) : Int), (1 : Int))) else (g14_l9 k a0 a1 z6 k z6.1 1)) (fun j6 => if z5 then (j6 (andI .i64 (fwrap .i64 x0_2) 31, 2, 128)) else (jn (fun (z7 : Bool) => if z7 then (j6 (andI .i64 (fwrap .i64 x0_2) 15, 3, 2048)) else (jn (fun (z8 : Bool) => if z8 then (j6 (andI .i64 (fwrap .i64 x0_2) 7, 4, 65536)) else (some (((-1) : Int), (1 : Int)))) (fun j8 => if (decide (240 ≤ fwrap .i64 x0_2)) then (j8 (decide (fwrap .i64 x0_2 < 248))) else (j8 false)))) (fun j7 => if (decide (224 ≤ fwrap .i64 x0_2)) then (j7 (decide (fwrap .i64 x0_2 < 240))) else (j7 false))))) (fun j5 => if (decide (192 ≤ fwrap .i64 x0_2)) then (j5 (decide (fwrap .i64 x0_2 < 224))) else (j5 false))))) (fun j4 => if (decide (a1 < 0)) then (j4 true) else (j4 (decide ((a0.length : Int) ≤ a1))))
theorem g14_ok (k : Nat) (a0 : (List Nat)) (a1 : Int) (r : (Int × Int)) (h : g14 k a0 a1 = some r) : PureOk Try.prog 14 [.str a0, .int .i64 a1] (.tuple [.int .i64 r.1, .int .i64 r.2]) := by
  refine pure_of X14 (fun _ => rfl) Try.func14 (by decide +kernel) (by kernel_rfl) (t := g14 k a0 a1) ?_ h
  unfold g14
  refine ok_env (env' := [(0, .str a0), (1, .int .i64 a1)]) (by kernel_rfl) ?_
  let E1 : Env := [(12, .bool (decide (a1 < 0))), (11, .bool (decide (a1 < 0))), (10, .int .i64 a1), (5, .int .i64 0), (4, .int .i64 0), (0, .str a0), (1, .int .i64 a1)]
  refine ok_run 11 (p' := (atN 3 (ctl1 g14p1))) (env' := E1) (H' := (mkH [])) (by kernel_rfl) ?_
  refine ok_jn (f := fun (z4 : Bool) => if z4 then (some ((0 : Int), (0 : Int))) else ((nthS a0 a1).bind fun x0_2 => if (decide (fwrap .i64 x0_2 < 128)) then (some (fwrap .i64 x0_2, (1 : Int))) else (jn (fun (z5 : Bool) => jn (fun (z6 : Int × Int × Int) => if (decide (fwrap .i64 ((a0.length : Int) - a1) < z6.2.1)) then (some (((-1) : Int), (1 : Int))) else (g14_l9 k a0 a1 z6 k z6.1 1)) (fun j6 => if z5 then (j6 (andI .i64 (fwrap .i64 x0_2) 31, 2, 128)) else (jn (fun (z7 : Bool) => if z7 then (j6 (andI .i64 (fwrap .i64 x0_2) 15, 3, 2048)) else (jn (fun (z8 : Bool) => if z8 then (j6 (andI .i64 (fwrap .i64 x0_2) 7, 4, 65536)) else (some (((-1) : Int), (1 : Int)))) (fun j8 => if (decide (240 ≤ fwrap .i64 x0_2)) then (j8 (decide (fwrap .i64 x0_2 < 248))) else (j8 false)))) (fun j7 => if (decide (224 ≤ fwrap .i64 x0_2)) then (j7 (decide (fwrap .i64 x0_2 < 240))) else (j7 false))))) (fun j5 => if (decide (192 ≤ fwrap .i64 x0_2)) then (j5 (decide (fwrap .i64 x0_2 < 224))) else (j5 false))))) g14p2 (fun (z4 : Bool) => [(0, .str a0), (1, .int .i64 a1), (17, .bool z4)]) (fun (z4 : Bool) => (mkH [])) (fun z4 => ?_) (fun j4 hj4 => ?_)
  · refine ok_split 17 (b := z4) (by kernel_rfl) (fun hb => ?_) (fun hb => ?_)
    · let E2 : Env := [(5, .int .i64 0), (4, .int .i64 0), (17, .bool true), (0, .str a0), (1, .int .i64 a1), (17, .bool z4)]
      refine ok_run 7 (p' := .fin) (env' := E2) (H' := (mkH [])) (by kernel_rfl) ?_
      exact ok_ret (r := ((0 : Int), (0 : Int))) (xs := [.int .i64 0, .int .i64 0]) (v := .tuple [.int .i64 0, .int .i64 0]) (by kernel_rfl) (by kernel_rfl) (by kernel_rfl) (.pures (by kernel_rfl)) (by kernel_rfl)
    · let E3 : Env := [(19, .int .i64 a1), (18, .str a0), (17, .bool false), (0, .str a0), (1, .int .i64 a1), (17, .bool z4)]
      refine ok_run 6 (p' := (atN 2 (ctl1 g14p4))) (env' := E3) (H' := (mkH [])) (by kernel_rfl) ?_
      refine ok_chk (fun (x0_2 : Int) => (.int .u8 x0_2, (mkH []))) (atN 3 (ctl1 g14p4)) (fun x0_2 => ((20, .int .u8 x0_2) :: E3)) (idxH (by kernel_rfl)) (fun _ => by kernel_rfl) (fun x0_2 hx0_2 => ?_)
      let E4 : Env := ((8, .int .i64 0) :: (7, .int .i64 1) :: (6, .int .i64 (fwrap .i64 x0_2)) :: (21, .int .i64 (fwrap .i64 x0_2)) :: (20, .int .u8 x0_2) :: E3)
      refine ok_run 11 (p' := g14p7) (env' := E4) (H' := (mkH [])) (by kernel_rfl) ?_
      refine ok_keep [0, 1, 6] (env' := [(0, .str a0), (1, .int .i64 a1), (6, .int .i64 (fwrap .i64 x0_2))]) (by kernel_rfl) ?_
      let E5 : Env := [(22, .bool (decide (fwrap .i64 x0_2 < 128))), (24, .bool (decide (fwrap .i64 x0_2 < 128))), (23, .int .i64 (fwrap .i64 x0_2)), (0, .str a0), (1, .int .i64 a1), (6, .int .i64 (fwrap .i64 x0_2))]
      refine ok_run 5 (p' := g14p8) (env' := E5) (H' := (mkH [])) (by kernel_rfl) ?_
      refine ok_split 22 (b := decide (fwrap .i64 x0_2 < 128)) (by kernel_rfl) (fun hb => ?_) (fun hb => ?_)
      · refine ok_run 8 (p' := .fin) (env' := ((5, .int .i64 1) :: (4, .int .i64 (fwrap .i64 x0_2)) :: (25, .int .i64 (fwrap .i64 x0_2)) :: (22, .bool true) :: E5)) (H' := (mkH [])) (by kernel_rfl) ?_
        exact ok_ret (r := (fwrap .i64 x0_2, (1 : Int))) (xs := [.int .i64 (fwrap .i64 x0_2), .int .i64 1]) (v := .tuple [.int .i64 (fwrap .i64 x0_2), .int .i64 1]) (by kernel_rfl) (by kernel_rfl) (by kernel_rfl) (.pures (by kernel_rfl)) (by kernel_rfl)
      · refine ok_run 6 (p' := (atN 3 (ctl1 g14p10))) (env' := ((29, .bool (decide (192 ≤ fwrap .i64 x0_2))) :: (28, .bool (decide (192 ≤ fwrap .i64 x0_2))) :: (27, .int .i64 (fwrap .i64 x0_2)) :: (22, .bool false) :: E5)) (H' := (mkH [])) (by kernel_rfl) ?_
        refine ok_jn (f := fun (z5 : Bool) => jn (fun (z6 : Int × Int × Int) => if (decide (fwrap .i64 ((a0.length : Int) - a1) < z6.2.1)) then (some (((-1) : Int), (1 : Int))) else (g14_l9 k a0 a1 z6 k z6.1 1)) (fun j6 => if z5 then (j6 (andI .i64 (fwrap .i64 x0_2) 31, 2, 128)) else (jn (fun (z7 : Bool) => if z7 then (j6 (andI .i64 (fwrap .i64 x0_2) 15, 3, 2048)) else (jn (fun (z8 : Bool) => if z8 then (j6 (andI .i64 (fwrap .i64 x0_2) 7, 4, 65536)) else (some (((-1) : Int), (1 : Int)))) (fun j8 => if (decide (240 ≤ fwrap .i64 x0_2)) then (j8 (decide (fwrap .i64 x0_2 < 248))) else (j8 false)))) (fun j7 => if (decide (224 ≤ fwrap .i64 x0_2)) then (j7 (decide (fwrap .i64 x0_2 < 240))) else (j7 false))))) g14p11 (fun (z5 : Bool) => [(0, .str a0), (1, .int .i64 a1), (6, .int .i64 (fwrap .i64 x0_2)), (26, .bool z5)]) (fun (z5 : Bool) => (mkH [])) (fun z5 => ?_) (fun j5 hj5 => ?_)
        · refine ok_jn (f := fun (z6 : Int × Int × Int) => if (decide (fwrap .i64 ((a0.length : Int) - a1) < z6.2.1)) then (some (((-1) : Int), (1 : Int))) else (g14_l9 k a0 a1 z6 k z6.1 1)) g14p14 (fun (z6 : Int × Int × Int) => [(0, .str a0), (1, .int .i64 a1), (6, .int .i64 z6.1), (7, .int .i64 z6.2.1), (8, .int .i64 z6.2.2)]) (fun (z6 : Int × Int × Int) => (mkH [])) (fun z6 => ?_) (fun j6 hj6 => ?_)
          · let E6 : Env := [(58, .bool (decide (fwrap .i64 ((a0.length : Int) - a1) < z6.2.1))), (57, .int .i64 z6.2.1), (56, .int .i64 (fwrap .i64 ((a0.length : Int) - a1))), (55, .int .i64 a1), (54, .int .i64 (a0.length : Int)), (53, .str a0), (0, .str a0), (1, .int .i64 a1), (6, .int .i64 z6.1), (7, .int .i64 z6.2.1), (8, .int .i64 z6.2.2)]
            refine ok_run 8 (p' := g14p16) (env' := E6) (H' := (mkH [])) (by kernel_rfl) ?_
            refine ok_split 58 (b := decide (fwrap .i64 ((a0.length : Int) - a1) < z6.2.1)) (by kernel_rfl) (fun hb => ?_) (fun hb => ?_)
            · refine ok_run 7 (p' := .fin) (env' := ((5, .int .i64 1) :: (4, .int .i64 (-1)) :: (58, .bool true) :: E6)) (H' := (mkH [])) (by kernel_rfl) ?_
              exact ok_ret (r := (((-1) : Int), (1 : Int))) (xs := [.int .i64 (-1), .int .i64 1]) (v := .tuple [.int .i64 (-1), .int .i64 1]) (by kernel_rfl) (by kernel_rfl) (by kernel_rfl) (.pures (by kernel_rfl)) (by kernel_rfl)
            · refine ok_run 9 (p' := g14p22) (env' := ((9, .int .i64 1) :: (58, .bool false) :: E6)) (H' := (mkH [])) (by kernel_rfl) ?_
              refine ok_keep [0, 1, 6, 7, 8, 9] (env' := [(0, .str a0), (1, .int .i64 a1), (6, .int .i64 z6.1), (7, .int .i64 z6.2.1), (8, .int .i64 z6.2.2), (9, .int .i64 1)]) (by kernel_rfl) ?_
              exact (g14_l9_ok k a0 a1 z6 k) z6.1 1
          · refine ok_split 26 (b := z5) (by kernel_rfl) (fun hb => ?_) (fun hb => ?_)
            · let E18 : Env := [(6, .int .i64 (andI .i64 (fwrap .i64 x0_2) 31)), (8, .int .i64 128), (7, .int .i64 2), (34, .int .i64 (andI .i64 (fwrap .i64 x0_2) 31)), (33, .int .i64 (fwrap .i64 x0_2)), (26, .bool true), (0, .str a0), (1, .int .i64 a1), (6, .int .i64 (fwrap .i64 x0_2)), (26, .bool z5)]
              refine ok_run 10 (p' := g14p14) (env' := E18) (H' := (mkH [])) (by kernel_rfl) ?_
              refine ok_keep [0, 1, 6, 7, 8] (env' := [(0, .str a0), (1, .int .i64 a1), (6, .int .i64 (andI .i64 (fwrap .i64 x0_2) 31)), (7, .int .i64 2), (8, .int .i64 128)]) (by kernel_rfl) ?_
              exact hj6 (andI .i64 (fwrap .i64 x0_2) 31, 2, 128)
            · let E19 : Env := [(38, .bool (decide (224 ≤ fwrap .i64 x0_2))), (37, .bool (decide (224 ≤ fwrap .i64 x0_2))), (36, .int .i64 (fwrap .i64 x0_2)), (26, .bool false), (0, .str a0), (1, .int .i64 a1), (6, .int .i64 (fwrap .i64 x0_2)), (26, .bool z5)]
              refine ok_run 6 (p' := (atN 3 (ctl1 g14p13))) (env' := E19) (H' := (mkH [])) (by kernel_rfl) ?_
              refine ok_jn (f := fun (z7 : Bool) => if z7 then (j6 (andI .i64 (fwrap .i64 x0_2) 15, 3, 2048)) else (jn (fun (z8 : Bool) => if z8 then (j6 (andI .i64 (fwrap .i64 x0_2) 7, 4, 65536)) else (some (((-1) : Int), (1 : Int)))) (fun j8 => if (decide (240 ≤ fwrap .i64 x0_2)) then (j8 (decide (fwrap .i64 x0_2 < 248))) else (j8 false)))) g14p15 (fun (z7 : Bool) => [(0, .str a0), (1, .int .i64 a1), (6, .int .i64 (fwrap .i64 x0_2)), (35, .bool z7)]) (fun (z7 : Bool) => (mkH [])) (fun z7 => ?_) (fun j7 hj7 => ?_)
              · refine ok_split 35 (b := z7) (by kernel_rfl) (fun hb => ?_) (fun hb => ?_)
                · let E20 : Env := [(6, .int .i64 (andI .i64 (fwrap .i64 x0_2) 15)), (8, .int .i64 2048), (7, .int .i64 3), (43, .int .i64 (andI .i64 (fwrap .i64 x0_2) 15)), (42, .int .i64 (fwrap .i64 x0_2)), (35, .bool true), (0, .str a0), (1, .int .i64 a1), (6, .int .i64 (fwrap .i64 x0_2)), (35, .bool z7)]
                  refine ok_run 10 (p' := g14p14) (env' := E20) (H' := (mkH [])) (by kernel_rfl) ?_
                  refine ok_keep [0, 1, 6, 7, 8] (env' := [(0, .str a0), (1, .int .i64 a1), (6, .int .i64 (andI .i64 (fwrap .i64 x0_2) 15)), (7, .int .i64 3), (8, .int .i64 2048)]) (by kernel_rfl) ?_
                  exact hj6 (andI .i64 (fwrap .i64 x0_2) 15, 3, 2048)
                · let E21 : Env := [(47, .bool (decide (240 ≤ fwrap .i64 x0_2))), (46, .bool (decide (240 ≤ fwrap .i64 x0_2))), (45, .int .i64 (fwrap .i64 x0_2)), (35, .bool false), (0, .str a0), (1, .int .i64 a1), (6, .int .i64 (fwrap .i64 x0_2)), (35, .bool z7)]
                  refine ok_run 6 (p' := (atN 3 (ctl1 g14p18))) (env' := E21) (H' := (mkH [])) (by kernel_rfl) ?_
                  refine ok_jn (f := fun (z8 : Bool) => if z8 then (j6 (andI .i64 (fwrap .i64 x0_2) 7, 4, 65536)) else (some (((-1) : Int), (1 : Int)))) g14p21 (fun (z8 : Bool) => [(0, .str a0), (1, .int .i64 a1), (6, .int .i64 (fwrap .i64 x0_2)), (44, .bool z8)]) (fun (z8 : Bool) => (mkH [])) (fun z8 => ?_) (fun j8 hj8 => ?_)
                  · refine ok_split 44 (b := z8) (by kernel_rfl) (fun hb => ?_) (fun hb => ?_)
                    · let E22 : Env := [(6, .int .i64 (andI .i64 (fwrap .i64 x0_2) 7)), (8, .int .i64 65536), (7, .int .i64 4), (52, .int .i64 (andI .i64 (fwrap .i64 x0_2) 7)), (51, .int .i64 (fwrap .i64 x0_2)), (44, .bool true), (0, .str a0), (1, .int .i64 a1), (6, .int .i64 (fwrap .i64 x0_2)), (44, .bool z8)]
                      refine ok_run 10 (p' := g14p14) (env' := E22) (H' := (mkH [])) (by kernel_rfl) ?_
                      refine ok_keep [0, 1, 6, 7, 8] (env' := [(0, .str a0), (1, .int .i64 a1), (6, .int .i64 (andI .i64 (fwrap .i64 x0_2) 7)), (7, .int .i64 4), (8, .int .i64 65536)]) (by kernel_rfl) ?_
                      exact hj6 (andI .i64 (fwrap .i64 x0_2) 7, 4, 65536)
                    · let E23 : Env := [(5, .int .i64 1), (4, .int .i64 (-1)), (44, .bool false), (0, .str a0), (1, .int .i64 a1), (6, .int .i64 (fwrap .i64 x0_2)), (44, .bool z8)]
                      refine ok_run 7 (p' := .fin) (env' := E23) (H' := (mkH [])) (by kernel_rfl) ?_
                      exact ok_ret (r := (((-1) : Int), (1 : Int))) (xs := [.int .i64 (-1), .int .i64 1]) (v := .tuple [.int .i64 (-1), .int .i64 1]) (by kernel_rfl) (by kernel_rfl) (by kernel_rfl) (.pures (by kernel_rfl)) (by kernel_rfl)
                  · refine ok_split 47 (b := decide (240 ≤ fwrap .i64 x0_2)) (by kernel_rfl) (fun hb => ?_) (fun hb => ?_)
                    · let E24 : Env := ((44, .bool (decide (fwrap .i64 x0_2 < 248))) :: (50, .bool (decide (fwrap .i64 x0_2 < 248))) :: (49, .bool (decide (fwrap .i64 x0_2 < 248))) :: (48, .int .i64 (fwrap .i64 x0_2)) :: (47, .bool true) :: E21)
                      refine ok_run 5 (p' := g14p21) (env' := E24) (H' := (mkH [])) (by kernel_rfl) ?_
                      refine ok_keep [0, 1, 6, 44] (env' := [(0, .str a0), (1, .int .i64 a1), (6, .int .i64 (fwrap .i64 x0_2)), (44, .bool (decide (fwrap .i64 x0_2 < 248)))]) (by kernel_rfl) ?_
                      exact hj8 (decide (fwrap .i64 x0_2 < 248))
                    · let E25 : Env := ((44, .bool false) :: (50, .bool false) :: (49, .tuple []) :: (48, .tuple []) :: (47, .bool false) :: E21)
                      refine ok_run 5 (p' := g14p21) (env' := E25) (H' := (mkH [])) (by kernel_rfl) ?_
                      refine ok_keep [0, 1, 6, 44] (env' := [(0, .str a0), (1, .int .i64 a1), (6, .int .i64 (fwrap .i64 x0_2)), (44, .bool false)]) (by kernel_rfl) ?_
                      exact hj8 false
              · refine ok_split 38 (b := decide (224 ≤ fwrap .i64 x0_2)) (by kernel_rfl) (fun hb => ?_) (fun hb => ?_)
                · let E26 : Env := ((35, .bool (decide (fwrap .i64 x0_2 < 240))) :: (41, .bool (decide (fwrap .i64 x0_2 < 240))) :: (40, .bool (decide (fwrap .i64 x0_2 < 240))) :: (39, .int .i64 (fwrap .i64 x0_2)) :: (38, .bool true) :: E19)
                  refine ok_run 5 (p' := g14p15) (env' := E26) (H' := (mkH [])) (by kernel_rfl) ?_
                  refine ok_keep [0, 1, 6, 35] (env' := [(0, .str a0), (1, .int .i64 a1), (6, .int .i64 (fwrap .i64 x0_2)), (35, .bool (decide (fwrap .i64 x0_2 < 240)))]) (by kernel_rfl) ?_
                  exact hj7 (decide (fwrap .i64 x0_2 < 240))
                · let E27 : Env := ((35, .bool false) :: (41, .bool false) :: (40, .tuple []) :: (39, .tuple []) :: (38, .bool false) :: E19)
                  refine ok_run 5 (p' := g14p15) (env' := E27) (H' := (mkH [])) (by kernel_rfl) ?_
                  refine ok_keep [0, 1, 6, 35] (env' := [(0, .str a0), (1, .int .i64 a1), (6, .int .i64 (fwrap .i64 x0_2)), (35, .bool false)]) (by kernel_rfl) ?_
                  exact hj7 false
        · refine ok_split 29 (b := decide (192 ≤ fwrap .i64 x0_2)) (by kernel_rfl) (fun hb => ?_) (fun hb => ?_)
          · let E28 : Env := ((26, .bool (decide (fwrap .i64 x0_2 < 224))) :: (32, .bool (decide (fwrap .i64 x0_2 < 224))) :: (31, .bool (decide (fwrap .i64 x0_2 < 224))) :: (30, .int .i64 (fwrap .i64 x0_2)) :: (29, .bool true) :: (29, .bool (decide (192 ≤ fwrap .i64 x0_2))) :: (28, .bool (decide (192 ≤ fwrap .i64 x0_2))) :: (27, .int .i64 (fwrap .i64 x0_2)) :: (22, .bool false) :: E5)
            refine ok_run 5 (p' := g14p11) (env' := E28) (H' := (mkH [])) (by kernel_rfl) ?_
            refine ok_keep [0, 1, 6, 26] (env' := [(0, .str a0), (1, .int .i64 a1), (6, .int .i64 (fwrap .i64 x0_2)), (26, .bool (decide (fwrap .i64 x0_2 < 224)))]) (by kernel_rfl) ?_
            exact hj5 (decide (fwrap .i64 x0_2 < 224))
          · let E29 : Env := ((26, .bool false) :: (32, .bool false) :: (31, .tuple []) :: (30, .tuple []) :: (29, .bool false) :: (29, .bool (decide (192 ≤ fwrap .i64 x0_2))) :: (28, .bool (decide (192 ≤ fwrap .i64 x0_2))) :: (27, .int .i64 (fwrap .i64 x0_2)) :: (22, .bool false) :: E5)
            refine ok_run 5 (p' := g14p11) (env' := E29) (H' := (mkH [])) (by kernel_rfl) ?_
            refine ok_keep [0, 1, 6, 26] (env' := [(0, .str a0), (1, .int .i64 a1), (6, .int .i64 (fwrap .i64 x0_2)), (26, .bool false)]) (by kernel_rfl) ?_
            exact hj5 false
  · refine ok_split 12 (b := decide (a1 < 0)) (by kernel_rfl) (fun hb => ?_) (fun hb => ?_)
    · let E30 : Env := ((17, .bool true) :: (16, .tuple []) :: (15, .tuple []) :: (14, .tuple []) :: (13, .tuple []) :: (12, .bool true) :: E1)
      refine ok_run 6 (p' := g14p2) (env' := E30) (H' := (mkH [])) (by kernel_rfl) ?_
      refine ok_keep [0, 1, 17] (env' := [(0, .str a0), (1, .int .i64 a1), (17, .bool true)]) (by kernel_rfl) ?_
      exact hj4 true
    · let E31 : Env := ((17, .bool (decide ((a0.length : Int) ≤ a1))) :: (16, .bool (decide ((a0.length : Int) ≤ a1))) :: (15, .int .i64 (a0.length : Int)) :: (14, .str a0) :: (13, .int .i64 a1) :: (12, .bool false) :: E1)
      refine ok_run 6 (p' := g14p2) (env' := E31) (H' := (mkH [])) (by kernel_rfl) ?_
      refine ok_keep [0, 1, 17] (env' := [(0, .str a0), (1, .int .i64 a1), (17, .bool (decide ((a0.length : Int) ≤ a1)))]) (by kernel_rfl) ?_
      exact hj4 (decide ((a0.length : Int) ≤ a1))
end Go.Proofs.Ytfkefelgjbfkjaa.Am
