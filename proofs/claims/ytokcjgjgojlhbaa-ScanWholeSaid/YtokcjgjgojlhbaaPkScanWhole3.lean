/- LawScanWhole, part 3: whatever the input, the law comes out true: our texts, joined by a tool, without what the claim does not name. -/
import Derived.Test.YtokcjgjgojlhbaaPkScanWhole2
set_option maxRecDepth 100000
set_option linter.unusedVariables false
namespace Go.Proofs.Ytokcjgjgojlhbaa.Am
noncomputable section
open Go
theorem g55_ok (k : Nat) (a0 : (List Nat)) (r : Int) (h : g55 k a0 = some r) : PureOk Try.prog 55 [.str a0] (.int .i64 r) := by
 refine pure_of X55 (fun _ => rfl) Try.func55 (by decide +kernel) (by kernel_rfl) (t := g55 k a0) ?_ h
 unfold g55
 refine ok_env (env' := [(0, .str a0)]) (by kernel_rfl) ?_
 refine ok_run 7 (p' := (atN 1 (ctl1 g55p1))) (env' := [(7, .str a0), (2, .int .i64 0), (0, .str a0)]) (H' := (mkH [])) (by kernel_rfl) ?_
 refine ok_call (fun (x0_1 : Int) => .int .i64 x0_1) (atN 2 (ctl1 g55p1)) (fun x0_1 => [(8, .int .i64 x0_1), (7, .str a0), (2, .int .i64 0), (0, .str a0)]) (fi := 64) (args := [.str a0, .int .i64 10]) (by kernel_rfl) (by kernel_rfl) (fun _ => by kernel_rfl) (fun r h => g64_ok k a0 (10 : Int) r h) (fun _ => by kernel_rfl) (fun x0_1 hx0_1 => ?_)
 let E1 : Env := [(11, .bool (decide (x0_1 = 0))), (10, .bool (decide (x0_1 = 0))), (9, .int .i64 x0_1), (3, .int .i64 x0_1), (8, .int .i64 x0_1), (7, .str a0), (2, .int .i64 0), (0, .str a0)]
 refine ok_run 8 (p' := (atN 3 (ctl1 g55p2))) (env' := E1) (H' := (mkH [])) (by kernel_rfl) ?_
 refine ok_jn (f := fun (z6 : Bool) => if z6 then (some (0 : Int)) else ((subL a0 (some (fwrap .i64 (x0_1 + 1))) none).bind fun x2_3 => (g64 k x2_3 (10 : Int)).bind fun x2_4 => if (decide (x2_4 = 0)) then (some (0 : Int)) else (jn (fun (z7 : Bool) => jn (fun (z10 : Unit) => some (fwrap .i64 (fwrap .i64 (x0_1 + 1) + x2_4))) (fun j10 => if z7 then (jn (fun (z8 : Bool) => jn (fun (z9 : Int) => (subL a0 (some z9) none).bind fun x5_2 => (g64 k x5_2 (10 : Int)).bind fun x5_3 => if (decide (0 < x5_3)) then (some (fwrap .i64 (z9 + x5_3))) else (j10 ())) (fun j9 => if z8 then (j9 (fwrap .i64 (fwrap .i64 (fwrap .i64 (fwrap .i64 (x0_1 + 1) + x2_4) + 1) + 1))) else (j9 (fwrap .i64 (fwrap .i64 (fwrap .i64 (x0_1 + 1) + x2_4) + 1))))) (fun j8 => if (decide (fwrap .i64 (fwrap .i64 (fwrap .i64 (x0_1 + 1) + x2_4) + 1) < (a0.length : Int))) then ((nthS a0 (fwrap .i64 (fwrap .i64 (fwrap .i64 (x0_1 + 1) + x2_4) + 1))).bind fun x4_7 => if (decide (x4_7 = 43)) then (j8 true) else ((nthS a0 (fwrap .i64 (fwrap .i64 (fwrap .i64 (x0_1 + 1) + x2_4) + 1))).bind fun x4_12 => j8 (decide (x4_12 = 45)))) else (j8 false))) else (j10 ()))) (fun j7 => if (decide (fwrap .i64 (fwrap .i64 (x0_1 + 1) + x2_4) < (a0.length : Int))) then ((nthS a0 (fwrap .i64 (fwrap .i64 (x0_1 + 1) + x2_4))).bind fun x3_7 => j7 (decide (orI .u8 x3_7 32 = 101))) else (j7 false))))) g55p3 (fun (z6 : Bool) => [(0, .str a0), (3, .int .i64 x0_1), (22, .bool z6)]) (fun (z6 : Bool) => (mkH [])) (fun z6 => ?_) (fun j6 hj6 => ?_)
 ·refine ok_split 22 (b := z6) (by kernel_rfl) (fun hb => ?_) (fun hb => ?_)
  ·let E2 : Env := [(2, .int .i64 0), (22, .bool true), (0, .str a0), (3, .int .i64 x0_1), (22, .bool z6)]
   refine ok_run 6 (p' := .fin) (env' := E2) (H' := (mkH [])) (by kernel_rfl) ?_
   exact ok_ret (r := (0 : Int)) (xs := [.int .i64 0]) (v := .int .i64 0) (by kernel_rfl) (by kernel_rfl) (by kernel_rfl) (.pures (by kernel_rfl)) (by kernel_rfl)
  ·let E3 : Env := [(25, .int .i64 (fwrap .i64 (x0_1 + 1))), (24, .int .i64 x0_1), (23, .str a0), (22, .bool false), (0, .str a0), (3, .int .i64 x0_1), (22, .bool z6)]
   refine ok_run 7 (p' := (atN 3 (ctl1 g55p5))) (env' := E3) (H' := (mkH [])) (by kernel_rfl) ?_
   refine ok_chk (fun (x2_3 : (List Nat)) => (.str x2_3, (mkH []))) (atN 4 (ctl1 g55p5)) (fun x2_3 => ((26, .str x2_3) :: E3)) (subH (some (fwrap .i64 (x0_1 + 1))) none (by kernel_rfl)) (fun _ => by kernel_rfl) (fun x2_3 hx2_3 => ?_)
   refine ok_call (fun (x2_4 : Int) => .int .i64 x2_4) (atN 5 (ctl1 g55p5)) (fun x2_4 => ((27, .int .i64 x2_4) :: (26, .str x2_3) :: E3)) (fi := 64) (args := [.str x2_3, .int .i64 10]) (by kernel_rfl) (by kernel_rfl) (fun _ => by kernel_rfl) (fun r h => g64_ok k x2_3 (10 : Int) r h) (fun _ => by kernel_rfl) (fun x2_4 hx2_4 => ?_)
   refine ok_run 4 (p' := g55p7) (env' := ((4, .int .i64 x2_4) :: (27, .int .i64 x2_4) :: (26, .str x2_3) :: E3)) (H' := (mkH [])) (by kernel_rfl) ?_
   refine ok_keep [0, 3, 4] (env' := [(0, .str a0), (3, .int .i64 x0_1), (4, .int .i64 x2_4)]) (by kernel_rfl) ?_
   let E4 : Env := [(29, .bool (decide (x2_4 = 0))), (28, .int .i64 x2_4), (0, .str a0), (3, .int .i64 x0_1), (4, .int .i64 x2_4)]
   refine ok_run 4 (p' := g55p8) (env' := E4) (H' := (mkH [])) (by kernel_rfl) ?_
   refine ok_split 29 (b := decide (x2_4 = 0)) (by kernel_rfl) (fun hb => ?_) (fun hb => ?_)
   ·refine ok_run 6 (p' := .fin) (env' := ((2, .int .i64 0) :: (29, .bool true) :: E4)) (H' := (mkH [])) (by kernel_rfl) ?_
    exact ok_ret (r := (0 : Int)) (xs := [.int .i64 0]) (v := .int .i64 0) (by kernel_rfl) (by kernel_rfl) (by kernel_rfl) (.pures (by kernel_rfl)) (by kernel_rfl)
   ·let E5 : Env := ((3, .int .i64 (fwrap .i64 (fwrap .i64 (x0_1 + 1) + x2_4))) :: (33, .int .i64 (fwrap .i64 (fwrap .i64 (x0_1 + 1) + x2_4))) :: (32, .int .i64 x2_4) :: (31, .int .i64 (fwrap .i64 (x0_1 + 1))) :: (30, .int .i64 x0_1) :: (29, .bool false) :: E4)
    refine ok_run 12 (p' := g55p11) (env' := E5) (H' := (mkH [])) (by kernel_rfl) ?_
    refine ok_keep [0, 3] (env' := [(0, .str a0), (3, .int .i64 (fwrap .i64 (fwrap .i64 (x0_1 + 1) + x2_4)))]) (by kernel_rfl) ?_
    let E6 : Env := [(38, .bool (decide (fwrap .i64 (fwrap .i64 (x0_1 + 1) + x2_4) < (a0.length : Int)))), (37, .bool (decide (fwrap .i64 (fwrap .i64 (x0_1 + 1) + x2_4) < (a0.length : Int)))), (36, .int .i64 (a0.length : Int)), (35, .str a0), (34, .int .i64 (fwrap .i64 (fwrap .i64 (x0_1 + 1) + x2_4))), (0, .str a0), (3, .int .i64 (fwrap .i64 (fwrap .i64 (x0_1 + 1) + x2_4)))]
    refine ok_run 6 (p' := (atN 5 (ctl1 g55p11))) (env' := E6) (H' := (mkH [])) (by kernel_rfl) ?_
    refine ok_jn (f := fun (z7 : Bool) => jn (fun (z10 : Unit) => some (fwrap .i64 (fwrap .i64 (x0_1 + 1) + x2_4))) (fun j10 => if z7 then (jn (fun (z8 : Bool) => jn (fun (z9 : Int) => (subL a0 (some z9) none).bind fun x5_2 => (g64 k x5_2 (10 : Int)).bind fun x5_3 => if (decide (0 < x5_3)) then (some (fwrap .i64 (z9 + x5_3))) else (j10 ())) (fun j9 => if z8 then (j9 (fwrap .i64 (fwrap .i64 (fwrap .i64 (fwrap .i64 (x0_1 + 1) + x2_4) + 1) + 1))) else (j9 (fwrap .i64 (fwrap .i64 (fwrap .i64 (x0_1 + 1) + x2_4) + 1))))) (fun j8 => if (decide (fwrap .i64 (fwrap .i64 (fwrap .i64 (x0_1 + 1) + x2_4) + 1) < (a0.length : Int))) then ((nthS a0 (fwrap .i64 (fwrap .i64 (fwrap .i64 (x0_1 + 1) + x2_4) + 1))).bind fun x4_7 => if (decide (x4_7 = 43)) then (j8 true) else ((nthS a0 (fwrap .i64 (fwrap .i64 (fwrap .i64 (x0_1 + 1) + x2_4) + 1))).bind fun x4_12 => j8 (decide (x4_12 = 45)))) else (j8 false))) else (j10 ()))) g55p12 (fun (z7 : Bool) => [(0, .str a0), (3, .int .i64 (fwrap .i64 (fwrap .i64 (x0_1 + 1) + x2_4))), (44, .bool z7)]) (fun (z7 : Bool) => (mkH [])) (fun z7 => ?_) (fun j7 hj7 => ?_)
    ·refine ok_jn (f := fun (z10 : Unit) => some (fwrap .i64 (fwrap .i64 (x0_1 + 1) + x2_4))) g55p14 (fun (z10 : Unit) => [(3, .int .i64 (fwrap .i64 (fwrap .i64 (x0_1 + 1) + x2_4)))]) (fun (z10 : Unit) => (mkH [])) (fun z10 => ?_) (fun j10 hj10 => ?_)
     ·refine ok_run 5 (p' := .fin) (env' := [(2, .int .i64 (fwrap .i64 (fwrap .i64 (x0_1 + 1) + x2_4))), (74, .int .i64 (fwrap .i64 (fwrap .i64 (x0_1 + 1) + x2_4))), (3, .int .i64 (fwrap .i64 (fwrap .i64 (x0_1 + 1) + x2_4)))]) (H' := (mkH [])) (by kernel_rfl) ?_
      exact ok_ret (r := (fwrap .i64 (fwrap .i64 (x0_1 + 1) + x2_4))) (xs := [.int .i64 (fwrap .i64 (fwrap .i64 (x0_1 + 1) + x2_4))]) (v := .int .i64 (fwrap .i64 (fwrap .i64 (x0_1 + 1) + x2_4))) (by kernel_rfl) (by kernel_rfl) (by kernel_rfl) (.pures (by kernel_rfl)) (by kernel_rfl)
     ·refine ok_split 44 (b := z7) (by kernel_rfl) (fun hb => ?_) (fun hb => ?_)
      ·let E7 : Env := [(51, .bool (decide (fwrap .i64 (fwrap .i64 (fwrap .i64 (x0_1 + 1) + x2_4) + 1) < (a0.length : Int)))), (50, .bool (decide (fwrap .i64 (fwrap .i64 (fwrap .i64 (x0_1 + 1) + x2_4) + 1) < (a0.length : Int)))), (49, .int .i64 (a0.length : Int)), (48, .str a0), (47, .int .i64 (fwrap .i64 (fwrap .i64 (fwrap .i64 (x0_1 + 1) + x2_4) + 1))), (5, .int .i64 (fwrap .i64 (fwrap .i64 (fwrap .i64 (x0_1 + 1) + x2_4) + 1))), (46, .int .i64 (fwrap .i64 (fwrap .i64 (fwrap .i64 (x0_1 + 1) + x2_4) + 1))), (45, .int .i64 (fwrap .i64 (fwrap .i64 (x0_1 + 1) + x2_4))), (44, .bool true), (0, .str a0), (3, .int .i64 (fwrap .i64 (fwrap .i64 (x0_1 + 1) + x2_4))), (44, .bool z7)]
       refine ok_run 15 (p' := (atN 5 (ctl1 g55p15))) (env' := E7) (H' := (mkH [])) (by kernel_rfl) ?_
       refine ok_jn (f := fun (z8 : Bool) => jn (fun (z9 : Int) => (subL a0 (some z9) none).bind fun x5_2 => (g64 k x5_2 (10 : Int)).bind fun x5_3 => if (decide (0 < x5_3)) then (some (fwrap .i64 (z9 + x5_3))) else (j10 ())) (fun j9 => if z8 then (j9 (fwrap .i64 (fwrap .i64 (fwrap .i64 (fwrap .i64 (x0_1 + 1) + x2_4) + 1) + 1))) else (j9 (fwrap .i64 (fwrap .i64 (fwrap .i64 (x0_1 + 1) + x2_4) + 1))))) g55p16 (fun (z8 : Bool) => [(0, .str a0), (3, .int .i64 (fwrap .i64 (fwrap .i64 (x0_1 + 1) + x2_4))), (5, .int .i64 (fwrap .i64 (fwrap .i64 (fwrap .i64 (x0_1 + 1) + x2_4) + 1))), (62, .bool z8)]) (fun (z8 : Bool) => (mkH [])) (fun z8 => ?_) (fun j8 hj8 => ?_)
       ·refine ok_jn (f := fun (z9 : Int) => (subL a0 (some z9) none).bind fun x5_2 => (g64 k x5_2 (10 : Int)).bind fun x5_3 => if (decide (0 < x5_3)) then (some (fwrap .i64 (z9 + x5_3))) else (j10 ())) g55p18 (fun (z9 : Int) => [(0, .str a0), (3, .int .i64 (fwrap .i64 (fwrap .i64 (x0_1 + 1) + x2_4))), (5, .int .i64 z9)]) (fun (z9 : Int) => (mkH [])) (fun z9 => ?_) (fun j9 hj9 => ?_)
        ·let E8 : Env := [(66, .int .i64 z9), (65, .str a0), (0, .str a0), (3, .int .i64 (fwrap .i64 (fwrap .i64 (x0_1 + 1) + x2_4))), (5, .int .i64 z9)]
         refine ok_run 3 (p' := (atN 2 (ctl1 g55p18))) (env' := E8) (H' := (mkH [])) (by kernel_rfl) ?_
         refine ok_chk (fun (x5_2 : (List Nat)) => (.str x5_2, (mkH []))) (atN 3 (ctl1 g55p18)) (fun x5_2 => ((67, .str x5_2) :: E8)) (subH (some z9) none (by kernel_rfl)) (fun _ => by kernel_rfl) (fun x5_2 hx5_2 => ?_)
         refine ok_call (fun (x5_3 : Int) => .int .i64 x5_3) (atN 4 (ctl1 g55p18)) (fun x5_3 => ((68, .int .i64 x5_3) :: (67, .str x5_2) :: E8)) (fi := 64) (args := [.str x5_2, .int .i64 10]) (by kernel_rfl) (by kernel_rfl) (fun _ => by kernel_rfl) (fun r h => g64_ok k x5_2 (10 : Int) r h) (fun _ => by kernel_rfl) (fun x5_3 hx5_3 => ?_)
         let E9 : Env := ((70, .bool (decide (0 < x5_3))) :: (69, .int .i64 x5_3) :: (6, .int .i64 x5_3) :: (68, .int .i64 x5_3) :: (67, .str x5_2) :: E8)
         refine ok_run 7 (p' := g55p20) (env' := E9) (H' := (mkH [])) (by kernel_rfl) ?_
         refine ok_split 70 (b := decide (0 < x5_3)) (by kernel_rfl) (fun hb => ?_) (fun hb => ?_)
         ·let E10 : Env := ((2, .int .i64 (fwrap .i64 (z9 + x5_3))) :: (73, .int .i64 (fwrap .i64 (z9 + x5_3))) :: (72, .int .i64 x5_3) :: (71, .int .i64 z9) :: (70, .bool true) :: E9)
          refine ok_run 9 (p' := .fin) (env' := E10) (H' := (mkH [])) (by kernel_rfl) ?_
          exact ok_ret (r := (fwrap .i64 (z9 + x5_3))) (xs := [.int .i64 (fwrap .i64 (z9 + x5_3))]) (v := .int .i64 (fwrap .i64 (z9 + x5_3))) (by kernel_rfl) (by kernel_rfl) (by kernel_rfl) (.pures (by kernel_rfl)) (by kernel_rfl)
         ·refine ok_run 3 (p' := g55p14) (env' := ((70, .bool false) :: E9)) (H' := (mkH [])) (by kernel_rfl) ?_
          refine ok_keep [3] (env' := [(3, .int .i64 (fwrap .i64 (fwrap .i64 (x0_1 + 1) + x2_4)))]) (by kernel_rfl) ?_
          exact hj10 ()
        ·refine ok_split 62 (b := z8) (by kernel_rfl) (fun hb => ?_) (fun hb => ?_)
         ·let E11 : Env := [(5, .int .i64 (fwrap .i64 (fwrap .i64 (fwrap .i64 (fwrap .i64 (x0_1 + 1) + x2_4) + 1) + 1))), (64, .int .i64 (fwrap .i64 (fwrap .i64 (fwrap .i64 (fwrap .i64 (x0_1 + 1) + x2_4) + 1) + 1))), (63, .int .i64 (fwrap .i64 (fwrap .i64 (fwrap .i64 (x0_1 + 1) + x2_4) + 1))), (62, .bool true), (0, .str a0), (3, .int .i64 (fwrap .i64 (fwrap .i64 (x0_1 + 1) + x2_4))), (5, .int .i64 (fwrap .i64 (fwrap .i64 (fwrap .i64 (x0_1 + 1) + x2_4) + 1))), (62, .bool z8)]
          refine ok_run 7 (p' := g55p18) (env' := E11) (H' := (mkH [])) (by kernel_rfl) ?_
          refine ok_keep [0, 3, 5] (env' := [(0, .str a0), (3, .int .i64 (fwrap .i64 (fwrap .i64 (x0_1 + 1) + x2_4))), (5, .int .i64 (fwrap .i64 (fwrap .i64 (fwrap .i64 (fwrap .i64 (x0_1 + 1) + x2_4) + 1) + 1)))]) (by kernel_rfl) ?_
          exact hj9 (fwrap .i64 (fwrap .i64 (fwrap .i64 (fwrap .i64 (x0_1 + 1) + x2_4) + 1) + 1))
         ·let E12 : Env := [(62, .bool false), (0, .str a0), (3, .int .i64 (fwrap .i64 (fwrap .i64 (x0_1 + 1) + x2_4))), (5, .int .i64 (fwrap .i64 (fwrap .i64 (fwrap .i64 (x0_1 + 1) + x2_4) + 1))), (62, .bool z8)]
          refine ok_run 3 (p' := g55p18) (env' := E12) (H' := (mkH [])) (by kernel_rfl) ?_
          refine ok_keep [0, 3, 5] (env' := [(0, .str a0), (3, .int .i64 (fwrap .i64 (fwrap .i64 (x0_1 + 1) + x2_4))), (5, .int .i64 (fwrap .i64 (fwrap .i64 (fwrap .i64 (x0_1 + 1) + x2_4) + 1)))]) (by kernel_rfl) ?_
          exact hj9 (fwrap .i64 (fwrap .i64 (fwrap .i64 (x0_1 + 1) + x2_4) + 1))
       ·refine ok_split 51 (b := decide (fwrap .i64 (fwrap .i64 (fwrap .i64 (x0_1 + 1) + x2_4) + 1) < (a0.length : Int))) (by kernel_rfl) (fun hb => ?_) (fun hb => ?_)
        ·refine ok_run 2 (p' := (atN 7 (ctl1 g55p15))) (env' := ((53, .int .i64 (fwrap .i64 (fwrap .i64 (fwrap .i64 (x0_1 + 1) + x2_4) + 1))) :: (52, .str a0) :: (51, .bool true) :: E7)) (H' := (mkH [])) (by kernel_rfl) ?_
         refine ok_chk (fun (x4_7 : Int) => (.int .u8 x4_7, (mkH []))) (atN 8 (ctl1 g55p15)) (fun x4_7 => ((54, .int .u8 x4_7) :: (53, .int .i64 (fwrap .i64 (fwrap .i64 (fwrap .i64 (x0_1 + 1) + x2_4) + 1))) :: (52, .str a0) :: (51, .bool true) :: E7)) (idxH (by kernel_rfl)) (fun _ => by kernel_rfl) (fun x4_7 hx4_7 => ?_)
         let E13 : Env := ((56, .bool (decide (x4_7 = 43))) :: (55, .bool (decide (x4_7 = 43))) :: (54, .int .u8 x4_7) :: (53, .int .i64 (fwrap .i64 (fwrap .i64 (fwrap .i64 (x0_1 + 1) + x2_4) + 1))) :: (52, .str a0) :: (51, .bool true) :: E7)
         refine ok_run 2 (p' := (atN 10 (ctl1 g55p15))) (env' := E13) (H' := (mkH [])) (by kernel_rfl) ?_
         refine ok_split 56 (b := decide (x4_7 = 43)) (by kernel_rfl) (fun hb => ?_) (fun hb => ?_)
         ·let E14 : Env := ((62, .bool true) :: (61, .bool true) :: (60, .tuple []) :: (59, .tuple []) :: (58, .tuple []) :: (57, .tuple []) :: (56, .bool true) :: E13)
          refine ok_run 7 (p' := g55p16) (env' := E14) (H' := (mkH [])) (by kernel_rfl) ?_
          refine ok_keep [0, 3, 5, 62] (env' := [(0, .str a0), (3, .int .i64 (fwrap .i64 (fwrap .i64 (x0_1 + 1) + x2_4))), (5, .int .i64 (fwrap .i64 (fwrap .i64 (fwrap .i64 (x0_1 + 1) + x2_4) + 1))), (62, .bool true)]) (by kernel_rfl) ?_
          exact hj8 true
         ·refine ok_run 2 (p' := (atN 12 (ctl1 g55p15))) (env' := ((58, .int .i64 (fwrap .i64 (fwrap .i64 (fwrap .i64 (x0_1 + 1) + x2_4) + 1))) :: (57, .str a0) :: (56, .bool false) :: E13)) (H' := (mkH [])) (by kernel_rfl) ?_
          refine ok_chk (fun (x4_12 : Int) => (.int .u8 x4_12, (mkH []))) (atN 13 (ctl1 g55p15)) (fun x4_12 => ((59, .int .u8 x4_12) :: (58, .int .i64 (fwrap .i64 (fwrap .i64 (fwrap .i64 (x0_1 + 1) + x2_4) + 1))) :: (57, .str a0) :: (56, .bool false) :: E13)) (idxH (by kernel_rfl)) (fun _ => by kernel_rfl) (fun x4_12 hx4_12 => ?_)
          let E15 : Env := ((62, .bool (decide (x4_12 = 45))) :: (61, .bool (decide (x4_12 = 45))) :: (60, .bool (decide (x4_12 = 45))) :: (59, .int .u8 x4_12) :: (58, .int .i64 (fwrap .i64 (fwrap .i64 (fwrap .i64 (x0_1 + 1) + x2_4) + 1))) :: (57, .str a0) :: (56, .bool false) :: E13)
          refine ok_run 4 (p' := g55p16) (env' := E15) (H' := (mkH [])) (by kernel_rfl) ?_
          refine ok_keep [0, 3, 5, 62] (env' := [(0, .str a0), (3, .int .i64 (fwrap .i64 (fwrap .i64 (x0_1 + 1) + x2_4))), (5, .int .i64 (fwrap .i64 (fwrap .i64 (fwrap .i64 (x0_1 + 1) + x2_4) + 1))), (62, .bool (decide (x4_12 = 45)))]) (by kernel_rfl) ?_
          exact hj8 (decide (x4_12 = 45))
        ·let E16 : Env := ((62, .bool false) :: (61, .tuple []) :: (60, .tuple []) :: (59, .tuple []) :: (58, .tuple []) :: (57, .tuple []) :: (56, .tuple []) :: (55, .tuple []) :: (54, .tuple []) :: (53, .tuple []) :: (52, .tuple []) :: (51, .bool false) :: E7)
         refine ok_run 12 (p' := g55p16) (env' := E16) (H' := (mkH [])) (by kernel_rfl) ?_
         refine ok_keep [0, 3, 5, 62] (env' := [(0, .str a0), (3, .int .i64 (fwrap .i64 (fwrap .i64 (x0_1 + 1) + x2_4))), (5, .int .i64 (fwrap .i64 (fwrap .i64 (fwrap .i64 (x0_1 + 1) + x2_4) + 1))), (62, .bool false)]) (by kernel_rfl) ?_
         exact hj8 false
      ·refine ok_run 3 (p' := g55p14) (env' := [(44, .bool false), (0, .str a0), (3, .int .i64 (fwrap .i64 (fwrap .i64 (x0_1 + 1) + x2_4))), (44, .bool z7)]) (H' := (mkH [])) (by kernel_rfl) ?_
       refine ok_keep [3] (env' := [(3, .int .i64 (fwrap .i64 (fwrap .i64 (x0_1 + 1) + x2_4)))]) (by kernel_rfl) ?_
       exact hj10 ()
    ·refine ok_split 38 (b := decide (fwrap .i64 (fwrap .i64 (x0_1 + 1) + x2_4) < (a0.length : Int))) (by kernel_rfl) (fun hb => ?_) (fun hb => ?_)
     ·refine ok_run 2 (p' := (atN 7 (ctl1 g55p11))) (env' := ((40, .int .i64 (fwrap .i64 (fwrap .i64 (x0_1 + 1) + x2_4))) :: (39, .str a0) :: (38, .bool true) :: E6)) (H' := (mkH [])) (by kernel_rfl) ?_
      refine ok_chk (fun (x3_7 : Int) => (.int .u8 x3_7, (mkH []))) (atN 8 (ctl1 g55p11)) (fun x3_7 => ((41, .int .u8 x3_7) :: (40, .int .i64 (fwrap .i64 (fwrap .i64 (x0_1 + 1) + x2_4))) :: (39, .str a0) :: (38, .bool true) :: E6)) (idxH (by kernel_rfl)) (fun _ => by kernel_rfl) (fun x3_7 hx3_7 => ?_)
      let E17 : Env := ((44, .bool (decide (orI .u8 x3_7 32 = 101))) :: (43, .bool (decide (orI .u8 x3_7 32 = 101))) :: (42, .int .u8 (orI .u8 x3_7 32)) :: (41, .int .u8 x3_7) :: (40, .int .i64 (fwrap .i64 (fwrap .i64 (x0_1 + 1) + x2_4))) :: (39, .str a0) :: (38, .bool true) :: E6)
      refine ok_run 4 (p' := g55p12) (env' := E17) (H' := (mkH [])) (by kernel_rfl) ?_
      refine ok_keep [0, 3, 44] (env' := [(0, .str a0), (3, .int .i64 (fwrap .i64 (fwrap .i64 (x0_1 + 1) + x2_4))), (44, .bool (decide (orI .u8 x3_7 32 = 101)))]) (by kernel_rfl) ?_
      exact hj7 (decide (orI .u8 x3_7 32 = 101))
     ·let E18 : Env := ((44, .bool false) :: (43, .tuple []) :: (42, .tuple []) :: (41, .tuple []) :: (40, .tuple []) :: (39, .tuple []) :: (38, .bool false) :: E6)
      refine ok_run 7 (p' := g55p12) (env' := E18) (H' := (mkH [])) (by kernel_rfl) ?_
      refine ok_keep [0, 3, 44] (env' := [(0, .str a0), (3, .int .i64 (fwrap .i64 (fwrap .i64 (x0_1 + 1) + x2_4))), (44, .bool false)]) (by kernel_rfl) ?_
      exact hj7 false
 ·refine ok_split 11 (b := decide (x0_1 = 0)) (by kernel_rfl) (fun hb => ?_) (fun hb => ?_)
  ·let E19 : Env := ((22, .bool true) :: (21, .tuple []) :: (20, .tuple []) :: (19, .tuple []) :: (18, .tuple []) :: (17, .bool true) :: (16, .bool true) :: (15, .tuple []) :: (14, .tuple []) :: (13, .tuple []) :: (12, .tuple []) :: (11, .bool true) :: E1)
   refine ok_run 12 (p' := g55p3) (env' := E19) (H' := (mkH [])) (by kernel_rfl) ?_
   refine ok_keep [0, 3, 22] (env' := [(0, .str a0), (3, .int .i64 x0_1), (22, .bool true)]) (by kernel_rfl) ?_
   exact hj6 true
  ·let E20 : Env := ((17, .bool (decide ((a0.length : Int) ≤ x0_1))) :: (16, .bool (decide ((a0.length : Int) ≤ x0_1))) :: (15, .bool (decide ((a0.length : Int) ≤ x0_1))) :: (14, .int .i64 (a0.length : Int)) :: (13, .str a0) :: (12, .int .i64 x0_1) :: (11, .bool false) :: E1)
   refine ok_run 6 (p' := (atN 9 (ctl1 g55p2))) (env' := E20) (H' := (mkH [])) (by kernel_rfl) ?_
   refine ok_split 17 (b := decide ((a0.length : Int) ≤ x0_1)) (by kernel_rfl) (fun hb => ?_) (fun hb => ?_)
   ·let E21 : Env := ((22, .bool true) :: (21, .tuple []) :: (20, .tuple []) :: (19, .tuple []) :: (18, .tuple []) :: (17, .bool true) :: E20)
    refine ok_run 6 (p' := g55p3) (env' := E21) (H' := (mkH [])) (by kernel_rfl) ?_
    refine ok_keep [0, 3, 22] (env' := [(0, .str a0), (3, .int .i64 x0_1), (22, .bool true)]) (by kernel_rfl) ?_
    exact hj6 true
   ·refine ok_run 2 (p' := (atN 11 (ctl1 g55p2))) (env' := ((19, .int .i64 x0_1) :: (18, .str a0) :: (17, .bool false) :: E20)) (H' := (mkH [])) (by kernel_rfl) ?_
    refine ok_chk (fun (x1_11 : Int) => (.int .u8 x1_11, (mkH []))) (atN 12 (ctl1 g55p2)) (fun x1_11 => ((20, .int .u8 x1_11) :: (19, .int .i64 x0_1) :: (18, .str a0) :: (17, .bool false) :: E20)) (idxH (by kernel_rfl)) (fun _ => by kernel_rfl) (fun x1_11 hx1_11 => ?_)
    let E22 : Env := ((22, .bool (!decide (x1_11 = 46))) :: (21, .bool (!decide (x1_11 = 46))) :: (20, .int .u8 x1_11) :: (19, .int .i64 x0_1) :: (18, .str a0) :: (17, .bool false) :: E20)
    refine ok_run 3 (p' := g55p3) (env' := E22) (H' := (mkH [])) (by kernel_rfl) ?_
    refine ok_keep [0, 3, 22] (env' := [(0, .str a0), (3, .int .i64 x0_1), (22, .bool (!decide (x1_11 = 46)))]) (by kernel_rfl) ?_
    exact hj6 (!decide (x1_11 = 46))
end
end Go.Proofs.Ytokcjgjgojlhbaa.Am
set_option maxRecDepth 100000
set_option linter.unusedVariables false
set_option linter.unusedSimpArgs false
namespace Go.Proofs.Ytokcjgjgojlhbaa.Am
open Go
def frontN : List Nat → Nat × Nat
 | a :: b :: r => if dgN a < 10 then (if b = 35 then (if 2 ≤ dgN a then (2, dgN a) else (0, 10)) else if dgN b < 10 then (match r with | c :: _ => if c = 35 ∧ 2 ≤ 10 * dgN a + dgN b ∧ 10 * dgN a + dgN b ≤ 36 then (3, 10 * dgN a + dgN b) else (0, 10) | [] => (0, 10)) else (0, 10)) else (0, 10)
 | _ => (0, 10)
def wholeN (s : List Nat) : Nat := if 0 < (frontN s).1 ∧ 0 < runN (frontN s).2 false (s.drop (frontN s).1) then (frontN s).1 + runN (frontN s).2 false (s.drop (frontN s).1) else runN 10 false s
def sgn (s : List Nat) : Nat := match s with | c :: _ => if c = 43 ∨ c = 45 then 1 else 0 | [] => 0
def expN (s : List Nat) : Nat := match s with | e :: q => if e = 101 ∨ e = 69 then (if 0 < runN 10 false (q.drop (sgn q)) then 1 + sgn q + runN 10 false (q.drop (sgn q)) else 0) else 0 | [] => 0
def fracN (n : Nat) (s : List Nat) : Nat := match s with | c :: r => if c = 46 then (if runN 10 false r = 0 then 0 else n + 1 + runN 10 false r + expN (r.drop (runN 10 false r))) else 0 | [] => 0
def partN (s : List Nat) : Nat := if runN 10 false s = 0 then 0 else fracN (runN 10 false s) (s.drop (runN 10 false s))
theorem dg_35 : ¬ dgN 35 < 10 := by decide
theorem frontN_le (s : List Nat) : (frontN s).1 ≤ s.length ∧ (frontN s).2 ≤ 36 := by
 unfold frontN
 repeat' split
 all_goals simp only [List.length_cons]
 all_goals omega
theorem front_1 (k : Nat) {a : Nat} {r : List Nat} (ha : a < 256) : g57_l4 (k + 4) (a :: r) 1 (k + 4) 0 0 = some (if 2 ≤ dgN a ∧ dgN a ≤ 36 then (2, (dgN a : Int)) else (0, 10)) := by
 have n0 := nthX (s := a :: r) (x := 0) (i := 0) rfl rfl
 rw [g57_l4_s]
 simp only [n0, digit_at _ ha, Int.mul_zero, Option.bind_some, show decide ((0 : Int) < 1) = true from rfl, if_true, show fwrap .i64 0 = 0 from rfl, Int.zero_add, show fwrap .i64 1 = 1 from rfl]
 have hd := dg_le a
 simp (disch := omega) only [↓reduceIte, ↓jn, gsL]
 rw [g57_l4_s]
 simp only [show decide ((1 : Int) < 1) = false from rfl, Bool.false_eq_true, if_false]
 by_cases h1 : dgN a ≤ 36
 ·by_cases h2 : 2 ≤ dgN a
  ·simp (disch := omega) only [↓reduceIte, ↓jn, gsL, h1, h2, and_self]; rfl
  ·simp (disch := omega) only [↓reduceIte, ↓jn, gsL, h2, false_and]
 ·simp (disch := omega) only [↓reduceIte, ↓jn, gsL, h1, and_false]
theorem front_2 (k : Nat) {a b : Nat} {r : List Nat} (ha : a < 256) (hb : b < 256) (h10 : dgN a < 10) : g57_l4 (k + 4) (a :: b :: r) 2 (k + 4) 0 0 = some (if 2 ≤ 10 * dgN a + dgN b ∧ 10 * dgN a + dgN b ≤ 36 then (3, ((10 * dgN a + dgN b : Nat) : Int)) else (0, 10)) := by
 have n0 := nthX (s := a :: b :: r) (x := 0) (i := 0) rfl rfl
 have n1 := nthX (s := a :: b :: r) (x := 1) (i := 1) rfl rfl
 have hd := dg_le a
 have hd' := dg_le b
 rw [g57_l4_s]
 simp only [n0, digit_at _ ha, Int.mul_zero, Option.bind_some, show decide ((0 : Int) < 2) = true from rfl, if_true, show fwrap .i64 0 = 0 from rfl, Int.zero_add, show fwrap .i64 1 = 1 from rfl]
 simp (disch := omega) only [↓reduceIte, ↓jn, gsL]
 rw [g57_l4_s]
 simp only [n1, digit_at _ hb, Option.bind_some, show decide ((1 : Int) < 2) = true from rfl, Bool.false_eq_true, if_false, if_true, show fwrap .i64 (1 + 1) = 2 from rfl]
 simp (disch := omega) only [↓reduceIte, ↓jn, gsL]
 rw [g57_l4_s]
 have e : 10 * (dgN a : Int) + (dgN b : Int) = ((10 * dgN a + dgN b : Nat) : Int) := by omega
 rw [e]
 simp only [show decide ((2 : Int) < 2) = false from rfl, Bool.false_eq_true, if_false]
 generalize 10 * dgN a + dgN b = v
 by_cases h1 : v ≤ 36
 ·by_cases h2 : 2 ≤ v
  ·simp (disch := omega) only [↓reduceIte, ↓jn, gsL, h1, h2, and_self]; rfl
  ·simp (disch := omega) only [↓reduceIte, ↓jn, gsL, h2, false_and]
 ·simp (disch := omega) only [↓reduceIte, ↓jn, gsL, h1, and_false]
theorem front_at {k : Nat} {s : List Nat} (hk : s.length < k) (hk3 : 4 ≤ k) (hs : By s) (hl : Sz s) : g57 k s = some (((frontN s).1 : Int), ((frontN s).2 : Int)) := by
 unfold Sz at hl
 unfold g57
 rw [bare_at hk hs hl]
 obtain ⟨k', rfl⟩ : ∃ k', k = k' + 4 := ⟨k - 4, by omega⟩
 cases s with
 | nil => rfl
 | cons a r =>
  have a256 := hs.head
  have hs1 := hs.tail
  by_cases ha : dgN a < 10
  ·cases r with
   | nil =>
    have e3 : barN 10 [a] = 1 := by simp only [barN, ha, if_true]
    rw [e3]; rfl
   | cons b r =>
    have b256 := hs1.head
    have hs2 := hs1.tail
    by_cases hb : dgN b < 10
    ·have hb35 : ¬ b = 35 := by intro h; rw [h] at hb; exact dg_35 hb
     cases r with
     | nil =>
      have e3 : barN 10 [a, b] = 2 := by simp only [barN, ha, hb, if_true]
      rw [e3]
      simp only [frontN, ha, hb, hb35, if_true, if_false]; rfl
     | cons c r =>
      simp only [List.length_cons] at hl
      have n2 := nthX (s := a :: b :: c :: r) (x := ((2 : Nat) : Int)) (i := 2) rfl rfl
      by_cases hc : dgN c < 10
      ·have hc35 : ¬ c = 35 := by intro h; rw [h] at hc; exact dg_35 hc
       have e3 : barN 10 (a :: b :: c :: r) = barN 10 r + 3 := by simp only [barN, ha, hb, hc, if_true]
       rw [e3]
       simp only [frontN, ha, hb, hb35, hc35, if_true, if_false, false_and, Option.bind_some, jn]
       simp (disch := omega) only [↓reduceIte, ↓jn, gsL]; rfl
      ·have e3 : barN 10 (a :: b :: c :: r) = 2 := by simp only [barN, ha, hb, hc, if_true, if_false]
       rw [e3]
       have f2 := front_2 k' (r := c :: r) a256 b256 ha
       simp only [frontN, ha, hb, hb35, if_true, if_false, Option.bind_some, jn, n2, List.length_cons]
       simp (disch := omega) only [↓reduceIte, ↓jn, gsL]
       by_cases hc35 : c = 35
       ·simp (disch := omega) only [↓reduceIte, ↓jn, gsL]
        simp only [Bool.not_true, Bool.false_eq_true, if_false, hc35, true_and] at f2 ⊢
        exact f2.trans (by split <;> rfl)
       ·simp (disch := omega) only [↓reduceIte, ↓jn, gsL]
        simp only [Bool.not_false, if_true, hc35, false_and, if_false]; rfl
    ·simp only [List.length_cons] at hl
     have e3 : barN 10 (a :: b :: r) = 1 := by simp only [barN, ha, hb, if_true, if_false]
     have n1 := nthX (s := a :: b :: r) (x := ((1 : Nat) : Int)) (i := 1) rfl rfl
     have f1 := front_1 k' (r := b :: r) a256
     rw [e3]
     simp only [frontN, ha, hb, if_true, if_false, Option.bind_some, jn, n1, List.length_cons]
     simp (disch := omega) only [↓reduceIte, ↓jn, gsL]
     by_cases hb35 : b = 35
     ·simp (disch := omega) only [↓reduceIte, ↓jn, gsL]
      simp only [Bool.not_true, Bool.false_eq_true, if_false, hb35, if_true] at f1 ⊢
      refine f1.trans ?_
      by_cases h2 : 2 ≤ dgN a
      ·rw [if_pos ⟨h2, by omega⟩, if_pos h2]; rfl
      ·rw [if_neg (by omega), if_neg h2]; rfl
     ·simp (disch := omega) only [↓reduceIte, ↓jn, gsL]
      simp only [Bool.not_false, if_true, hb35, if_false]; rfl
  ·have : frontN (a :: r) = (0, 10) := by cases r <;> simp only [frontN, ha, if_false]
   have e3 : barN 10 (a :: r) = 0 := by simp only [barN, ha, if_false]
   rw [this, e3]
   rfl
theorem whole_at {k : Nat} {s : List Nat} (hk : s.length < k) (hk3 : 4 ≤ k) (hs : By s) (hl : Sz s) : g56 k s = some ((wholeN s : Nat) : Int) := by
 have hl' := hl
 unfold Sz at hl
 unfold g56 wholeN
 rw [front_at hk hk3 hs hl]
 obtain ⟨f1, f2⟩ := frontN_le s
 have r1 := run_at (k := k) (s := s.drop (frontN s).1) (by rw [List.length_drop]; omega) (hs.drop _) (by unfold Sz; rw [List.length_drop]; omega) (b := (frontN s).2) (by omega)
 have r2 := run_at hk hs hl' (b := 10) (by decide)
 have r2 : g64 k s 10 = _ := r2
 have l1 := runN_le (frontN s).2 false (s.drop (frontN s).1)
 rw [List.length_drop] at l1
 simp only [Option.bind_some, subFrom rfl f1, r1, r2]
 by_cases h1 : 0 < (frontN s).1
 ·by_cases h2 : 0 < runN (frontN s).2 false (s.drop (frontN s).1)
  ·simp (disch := omega) only [↓reduceIte, ↓jn, gsL, h1, h2, and_self]
   exact sn rfl
  ·simp (disch := omega) only [↓reduceIte, ↓jn, gsL, h1, h2, and_self, and_false]
 ·simp (disch := omega) only [↓reduceIte, ↓jn, gsL, h1, false_and]
theorem or32 {c : Nat} (h : c < 256) : decide (orI .u8 (c : Int) 32 = 101) = decide (c = 101 ∨ c = 69) := by
 have w := byteAll (f := fun c => decide (orI .u8 (c : Int) 32 = 101) == decide (c = 101 ∨ c = 69)) (by decide +kernel) h
 exact eq_of_beq w
theorem sgn_le (q : List Nat) : sgn q ≤ q.length := by
 unfold sgn; split
 ·split <;> simp
 ·simp
theorem part_at {k : Nat} {s : List Nat} (hk : s.length < k) (hs : By s) (hl : Sz s) : g55 k s = some ((partN s : Nat) : Int) := by
 have R : ∀ i, i ≤ s.length → g64 k (s.drop i) 10 = some ((runN 10 false (s.drop i) : Nat) : Int) := fun i hi =>
  run_at (k := k) (s := s.drop i) (by rw [List.length_drop]; omega) (hs.drop _) (by unfold Sz at *; rw [List.length_drop]; omega) (b := 10) (by decide)
 unfold Sz at hl
 unfold g55 partN
 have r0 := R 0 (by omega)
 rw [List.drop_zero] at r0
 have l0 := runN_le 10 false s
 refine bS (by (try simp (disch := omega) only [fwI]); exact r0) ?_
 generalize runN 10 false s = n at *
 clear r0
 by_cases h0 : n = 0
 ·subst h0; rfl
 rcases Nat.lt_or_ge n s.length with hn | hn
 ·obtain ⟨c, r, hc, hr, hm, hrl⟩ := dcons hn
  have nc := nthX rfl hc
  by_cases h46 : c = 46
  ·subst h46
   refine (jS (v := false) (fun j => by simp (disch := omega) only [↓reduceIte, ↓jn, gsL, nc])).trans ?_
   refine iF (by first | (simp (disch := omega) only [↓reduceIte, ↓jn, gsL]; done) | rfl) ?_
   have r1 := R (n + 1) (by omega)
   have l1 := runN_le 10 false r
   rw [hr] at r1
   have s1 := subFrom (s := s) (x := (n : Int) + 1) (i := n + 1) (by push_cast; rfl) (by omega)
   rw [hr] at s1
   have a1 : ∀ j, s.drop (n + 1 + j) = r.drop j := by intro j; rw [← List.drop_drop, hr]
   simp only [hc, fracN, h0, if_true, if_false]
   refine bS (by (try simp (disch := omega) only [fwI]); exact s1) ?_
   refine bS (by (try simp (disch := omega) only [fwI]); exact r1) ?_
   generalize runN 10 false r = m at *
   by_cases m0 : m = 0
   ·refine iT (by first | (simp (disch := omega) only [↓reduceIte, ↓jn, gsL, m0]; done) | rfl) ?_
    rw [if_pos m0]; rfl
   ·refine iF (by first | (simp (disch := omega) only [↓reduceIte, ↓jn, gsL]; done) | rfl) ?_
    rw [if_neg m0]
    rcases Nat.lt_or_ge (n + 1 + m) s.length with h1 | h1
    ·obtain ⟨e, q, he, hq, hem, hql⟩ := dcons h1
     have e256 := hs e hem
     have he' := he
     rw [a1] at he'
     have ne : nthS s ((n : Int) + 1 + m) = some (e : Int) := nthX (by omega) he
     have oe := or32 e256
     rw [he']
     by_cases hE : e = 101 ∨ e = 69
     ·rw [decide_eq_true hE] at oe
      simp only [expN, hE, if_true]
      refine (jS (v := true) (fun j => by simp (disch := omega) only [↓reduceIte, ↓jn, gsL, ne, oe])).trans ?_
      have out : g64 k (q.drop (sgn q)) 10 = some ((runN 10 false (q.drop (sgn q)) : Nat) : Int) ∧ subL s (some ((n : Int) + 1 + m + 1 + (sgn q : Nat))) none = some (q.drop (sgn q)) ∧ runN 10 false (q.drop (sgn q)) ≤ s.length := by
       have hs' := sgn_le q
       have d : s.drop (n + 1 + m + 1 + sgn q) = q.drop (sgn q) := by rw [← List.drop_drop, hq]
       have := R (n + 1 + m + 1 + sgn q) (by omega)
       rw [d] at this
       refine ⟨this, ?_, ?_⟩
       ·have := subFrom (s := s) (x := (n : Int) + 1 + m + 1 + (sgn q : Nat)) (i := n + 1 + m + 1 + sgn q) (by push_cast; rfl) (by omega)
        rw [d] at this
        exact this
       ·have := runN_le 10 false (q.drop (sgn q))
        rw [List.length_drop] at this
        omega
      obtain ⟨o1, o2, o3⟩ := out
      have fin : ∀ (x : Int) (z : Nat) (j : Unit → Option Int), subL s (some x) none = some (q.drop (sgn q)) → -1000000000000000000 ≤ x → x ≤ 1000000000000000000 → runN 10 false (q.drop (sgn q)) = z → ((subL s (some x) none).bind fun x5_2 => (g64 k x5_2 10).bind fun x5_3 => if decide (0 < x5_3) then some (fwrap .i64 (x + x5_3)) else j ()) = if 0 < z then some (x + z) else j () := by
       intro x z j hx b1 b2 hz
       refine bS (by (try simp (disch := omega) only [fwI]); exact hx) ?_
       refine bS (by (try simp (disch := omega) only [fwI]); exact o1) ?_
       rw [hz] at o3 ⊢
       by_cases h : 0 < z
       ·rw [if_pos h]; refine iT (by first | (simp (disch := omega) only [↓reduceIte, ↓jn, gsL]; done) | rfl) ?_; rw [fwI (by omega) (by omega)]
       ·rw [if_neg h]; refine iF (by first | (simp (disch := omega) only [↓reduceIte, ↓jn, gsL]; done) | rfl) ?_; rfl
      generalize hz : runN 10 false (q.drop (sgn q)) = z at *
      by_cases z0 : 0 < z
      ·refine jC fun j => ?_
       refine iT (by first | (simp (disch := omega) only [↓reduceIte, ↓jn, gsL]; done) | rfl) ?_
       rw [if_pos z0]
       cases q with
       | nil => simp only [sgn, List.drop_nil, runN] at hz; omega
       | cons d q =>
        simp only [List.length_cons] at hql
        have nd : nthS s ((n : Int) + 1 + m + 1) = some (d : Int) := nthX (i := n + 1 + m + 1) (by omega) hq
        by_cases hd : d = 43 ∨ d = 45
        ·have sg : sgn (d :: q) = 1 := by simp only [sgn, hd, if_true]
         rw [sg] at o2 fin ⊢
         have dd : (if decide ((d : Int) = 43) then true else decide ((d : Int) = 45)) = true := by rcases hd with rfl | rfl <;> rfl
         refine (jS (v := true) (fun j => ?_)).trans ?_
         ·rcases hd with rfl | rfl <;> simp (disch := omega) only [↓reduceIte, ↓jn, gsL, nd]
         ·refine (jS (v := (n : Int) + 1 + m + 1 + 1) (fun j => ?_)).trans ?_
          ·simp (disch := omega) only [↓reduceIte, ↓jn, gsL]
          ·refine (fin _ z j o2 (by omega) (by omega) rfl).trans ?_
           rw [if_pos z0]
           exact congrArg some (by omega)
        ·have sg : sgn (d :: q) = 0 := by simp only [sgn, hd, if_false]
         rw [sg] at o2 fin ⊢
         have d1 : ¬ (d : Int) = 43 := by omega
         have d2 : ¬ (d : Int) = 45 := by omega
         refine (jS (v := false) (fun j => ?_)).trans ?_
         ·simp (disch := omega) only [↓reduceIte, ↓jn, gsL, nd, d1, d2]
         ·refine (jS (v := (n : Int) + 1 + m + 1) (fun j => ?_)).trans ?_
          ·simp (disch := omega) only [↓reduceIte, ↓jn, gsL]
          ·refine (fin _ z j (by simpa using o2) (by omega) (by omega) rfl).trans ?_
           rw [if_pos z0]
           exact congrArg some (by omega)
      ·rw [if_neg z0]
       refine (jS (v := ()) (fun j => ?_)).trans ?_
       ·refine iT (by first | (simp (disch := omega) only [↓reduceIte, ↓jn, gsL]; done) | rfl) ?_
        cases q with
        | nil =>
         refine (jS (v := false) (fun j => ?_)).trans ?_
         ·simp only [List.length_nil] at hql
          simp (disch := omega) only [↓reduceIte, ↓jn, gsL]
         ·refine (jS (v := (n : Int) + 1 + m + 1) (fun j => ?_)).trans ?_
          ·simp (disch := omega) only [↓reduceIte, ↓jn, gsL]
          ·refine (fin _ z j (by simpa [sgn] using o2) (by omega) (by omega) rfl).trans ?_
           rw [if_neg z0]
        | cons d q =>
         simp only [List.length_cons] at hql
         have nd : nthS s ((n : Int) + 1 + m + 1) = some (d : Int) := nthX (i := n + 1 + m + 1) (by omega) hq
         by_cases hd : d = 43 ∨ d = 45
         ·have sg : sgn (d :: q) = 1 := by simp only [sgn, hd, if_true]
          rw [sg] at o2 fin
          refine (jS (v := true) (fun j => ?_)).trans ?_
          ·rcases hd with rfl | rfl <;> simp (disch := omega) only [↓reduceIte, ↓jn, gsL, nd]
          ·refine (jS (v := (n : Int) + 1 + m + 1 + 1) (fun j => ?_)).trans ?_
           ·simp (disch := omega) only [↓reduceIte, ↓jn, gsL]
           ·refine (fin _ z j o2 (by omega) (by omega) rfl).trans ?_
            rw [if_neg z0]
         ·have sg : sgn (d :: q) = 0 := by simp only [sgn, hd, if_false]
          rw [sg] at o2 fin
          have d1 : ¬ (d : Int) = 43 := by omega
          have d2 : ¬ (d : Int) = 45 := by omega
          refine (jS (v := false) (fun j => ?_)).trans ?_
          ·simp (disch := omega) only [↓reduceIte, ↓jn, gsL, nd, d1, d2]
          ·refine (jS (v := (n : Int) + 1 + m + 1) (fun j => ?_)).trans ?_
           ·simp (disch := omega) only [↓reduceIte, ↓jn, gsL]
           ·refine (fin _ z j (by simpa using o2) (by omega) (by omega) rfl).trans ?_
            rw [if_neg z0]
       ·simp (disch := omega) only [↓reduceIte, ↓jn, gsL]
        exact congrArg some (by omega)
     ·rw [decide_eq_false hE] at oe
      simp only [expN, hE, if_false]
      refine (jS (v := false) (fun j => by simp (disch := omega) only [↓reduceIte, ↓jn, gsL, ne, oe])).trans ?_
      simp (disch := omega) only [↓reduceIte, ↓jn, gsL]
      exact congrArg some (by omega)
    ·have he : r.drop m = [] := by rw [← a1]; exact dnil h1
     simp only [he, expN]
     refine (jS (v := false) (fun j => by simp (disch := omega) only [↓reduceIte, ↓jn, gsL])).trans ?_
     simp (disch := omega) only [↓reduceIte, ↓jn, gsL]
     exact congrArg some (by omega)
  ·refine (jS (v := true) (fun j => by simp (disch := omega) only [↓reduceIte, ↓jn, gsL, nc])).trans ?_
   refine iT (by first | (simp (disch := omega) only [↓reduceIte, ↓jn, gsL]; done) | rfl) ?_
   rw [hc]
   simp only [fracN, h0, h46, if_false]; rfl
 ·refine (jS (v := true) (fun j => by simp (disch := omega) only [↓reduceIte, ↓jn, gsL])).trans ?_
  refine iT (by first | (simp (disch := omega) only [↓reduceIte, ↓jn, gsL]; done) | rfl) ?_
  rw [dnil hn]
  simp only [fracN, h0, if_false]; rfl
end Go.Proofs.Ytokcjgjgojlhbaa.Am
set_option maxRecDepth 100000
set_option linter.unusedVariables false
namespace Go.Proofs.Ytokcjgjgojlhbaa.Am
noncomputable section
open Go
def X47 : Fx (Int × Int) := ⟨Try.prog, cx, Try.f47, fun r => .tuple [.int .i64 r.1, .int .i64 r.2], 0, fun _ => H0, cxTi, cxOrd⟩
def g47p0 : Pt := nav [0] (bodyAt Try.f47)
def g47p1 : Pt := nav [0, 0, 0, 0, 0] g47p0
def g47p2 : Pt := nav [0, 0] g47p1
def g47p4 : Pt := nav [2, 0] g47p2
def g47p6 : Pt := nav [0, 0] g47p4
def g47p8 : Pt := nav [2, 0] g47p6
def g47p9 : Pt := nav [0, 0] g47p8
def g47p11 : Pt := nav [2, 0] g47p9
def g47p12 : Pt := nav [0, 0] g47p11
def g47 (k : Nat) (a0 : Int) : Option (Int × Int) :=
 if (decide (a0 < 128)) then (some ((1 : Int), fwrap .i64 a0)) else (if (decide (shrC a0 5 = 6)) then (some ((2 : Int), fwrap .i64 (andI .u8 a0 31))) else (if (decide (shrC a0 4 = 14)) then (some ((3 : Int), fwrap .i64 (andI .u8 a0 15))) else (if (decide (shrC a0 3 = 30)) then (some ((4 : Int), fwrap .i64 (andI .u8 a0 7))) else (some ((0 : Int), (0 : Int))))))
theorem g47_ok (k : Nat) (a0 : Int) (r : (Int × Int)) (h : g47 k a0 = some r) : PureOk Try.prog 47 [.int .u8 a0] (.tuple [.int .i64 r.1, .int .i64 r.2]) := by
 refine pure_of X47 (fun _ => rfl) Try.func47 (by decide +kernel) (by kernel_rfl) (t := g47 k a0) ?_ h
 unfold g47
 refine ok_env (env' := [(0, .int .u8 a0)]) (by kernel_rfl) ?_
 let E1 : Env := [(4, .bool (decide (a0 < 128))), (6, .bool (decide (a0 < 128))), (5, .int .u8 a0), (3, .int .i64 0), (2, .int .i64 0), (0, .int .u8 a0)]
 refine ok_run 13 (p' := g47p2) (env' := E1) (H' := (mkH [])) (by kernel_rfl) ?_
 refine ok_split 4 (b := decide (a0 < 128)) (by kernel_rfl) (fun hb => ?_) (fun hb => ?_)
 ·let E2 : Env := ((3, .int .i64 (fwrap .i64 a0)) :: (2, .int .i64 1) :: (8, .int .i64 (fwrap .i64 a0)) :: (7, .int .u8 a0) :: (4, .bool true) :: E1)
  refine ok_run 9 (p' := .fin) (env' := E2) (H' := (mkH [])) (by kernel_rfl) ?_
  exact ok_ret (r := ((1 : Int), fwrap .i64 a0)) (xs := [.int .i64 1, .int .i64 (fwrap .i64 a0)]) (v := .tuple [.int .i64 1, .int .i64 (fwrap .i64 a0)]) (by kernel_rfl) (by kernel_rfl) (by kernel_rfl) (.pures (by kernel_rfl)) (by kernel_rfl)
 ·let E3 : Env := ((9, .bool (decide (shrC a0 5 = 6))) :: (12, .bool (decide (shrC a0 5 = 6))) :: (11, .int .u8 (shrC a0 5)) :: (10, .int .u8 a0) :: (4, .bool false) :: E1)
  refine ok_run 8 (p' := g47p6) (env' := E3) (H' := (mkH [])) (by kernel_rfl) ?_
  refine ok_keep [0, 9] (env' := [(0, .int .u8 a0), (9, .bool (decide (shrC a0 5 = 6)))]) (by kernel_rfl) ?_
  refine ok_split 9 (b := decide (shrC a0 5 = 6)) (by kernel_rfl) (fun hb => ?_) (fun hb => ?_)
  ·let E4 : Env := [(3, .int .i64 (fwrap .i64 (andI .u8 a0 31))), (2, .int .i64 2), (15, .int .i64 (fwrap .i64 (andI .u8 a0 31))), (14, .int .u8 (andI .u8 a0 31)), (13, .int .u8 a0), (9, .bool true), (0, .int .u8 a0), (9, .bool (decide (shrC a0 5 = 6)))]
   refine ok_run 10 (p' := .fin) (env' := E4) (H' := (mkH [])) (by kernel_rfl) ?_
   exact ok_ret (r := ((2 : Int), fwrap .i64 (andI .u8 a0 31))) (xs := [.int .i64 2, .int .i64 (fwrap .i64 (andI .u8 a0 31))]) (v := .tuple [.int .i64 2, .int .i64 (fwrap .i64 (andI .u8 a0 31))]) (by kernel_rfl) (by kernel_rfl) (by kernel_rfl) (.pures (by kernel_rfl)) (by kernel_rfl)
  ·let E5 : Env := [(16, .bool (decide (shrC a0 4 = 14))), (19, .bool (decide (shrC a0 4 = 14))), (18, .int .u8 (shrC a0 4)), (17, .int .u8 a0), (9, .bool false), (0, .int .u8 a0), (9, .bool (decide (shrC a0 5 = 6)))]
   refine ok_run 8 (p' := g47p9) (env' := E5) (H' := (mkH [])) (by kernel_rfl) ?_
   refine ok_split 16 (b := decide (shrC a0 4 = 14)) (by kernel_rfl) (fun hb => ?_) (fun hb => ?_)
   ·let E6 : Env := ((3, .int .i64 (fwrap .i64 (andI .u8 a0 15))) :: (2, .int .i64 3) :: (22, .int .i64 (fwrap .i64 (andI .u8 a0 15))) :: (21, .int .u8 (andI .u8 a0 15)) :: (20, .int .u8 a0) :: (16, .bool true) :: E5)
    refine ok_run 10 (p' := .fin) (env' := E6) (H' := (mkH [])) (by kernel_rfl) ?_
    exact ok_ret (r := ((3 : Int), fwrap .i64 (andI .u8 a0 15))) (xs := [.int .i64 3, .int .i64 (fwrap .i64 (andI .u8 a0 15))]) (v := .tuple [.int .i64 3, .int .i64 (fwrap .i64 (andI .u8 a0 15))]) (by kernel_rfl) (by kernel_rfl) (by kernel_rfl) (.pures (by kernel_rfl)) (by kernel_rfl)
   ·let E7 : Env := ((23, .bool (decide (shrC a0 3 = 30))) :: (26, .bool (decide (shrC a0 3 = 30))) :: (25, .int .u8 (shrC a0 3)) :: (24, .int .u8 a0) :: (16, .bool false) :: E5)
    refine ok_run 8 (p' := g47p12) (env' := E7) (H' := (mkH [])) (by kernel_rfl) ?_
    refine ok_keep [0, 23] (env' := [(0, .int .u8 a0), (23, .bool (decide (shrC a0 3 = 30)))]) (by kernel_rfl) ?_
    refine ok_split 23 (b := decide (shrC a0 3 = 30)) (by kernel_rfl) (fun hb => ?_) (fun hb => ?_)
    ·let E8 : Env := [(3, .int .i64 (fwrap .i64 (andI .u8 a0 7))), (2, .int .i64 4), (29, .int .i64 (fwrap .i64 (andI .u8 a0 7))), (28, .int .u8 (andI .u8 a0 7)), (27, .int .u8 a0), (23, .bool true), (0, .int .u8 a0), (23, .bool (decide (shrC a0 3 = 30)))]
     refine ok_run 10 (p' := .fin) (env' := E8) (H' := (mkH [])) (by kernel_rfl) ?_
     exact ok_ret (r := ((4 : Int), fwrap .i64 (andI .u8 a0 7))) (xs := [.int .i64 4, .int .i64 (fwrap .i64 (andI .u8 a0 7))]) (v := .tuple [.int .i64 4, .int .i64 (fwrap .i64 (andI .u8 a0 7))]) (by kernel_rfl) (by kernel_rfl) (by kernel_rfl) (.pures (by kernel_rfl)) (by kernel_rfl)
    ·let E9 : Env := [(3, .int .i64 0), (2, .int .i64 0), (23, .bool false), (0, .int .u8 a0), (23, .bool (decide (shrC a0 3 = 30)))]
     refine ok_run 8 (p' := .fin) (env' := E9) (H' := (mkH [])) (by kernel_rfl) ?_
     exact ok_ret (r := ((0 : Int), (0 : Int))) (xs := [.int .i64 0, .int .i64 0]) (v := .tuple [.int .i64 0, .int .i64 0]) (by kernel_rfl) (by kernel_rfl) (by kernel_rfl) (.pures (by kernel_rfl)) (by kernel_rfl)
end
end Go.Proofs.Ytokcjgjgojlhbaa.Am
set_option maxRecDepth 100000
set_option linter.unusedVariables false
namespace Go.Proofs.Ytokcjgjgojlhbaa.Am
noncomputable section
open Go
def X48 : Fx Int := ⟨Try.prog, cx, Try.f48, fun r => .int .i64 r, 0, fun _ => H0, cxTi, cxOrd⟩
def g48c0 : List Int := [(0 : Int), (0 : Int), (128 : Int), (2048 : Int), (65536 : Int)]
def g48p0 : Pt := nav [0] (bodyAt Try.f48)
def g48p1 : Pt := nav [0, 0, 0] g48p0
def g48 (k : Nat) (a0 : Int) : Option Int :=
 (nthA g48c0 5 a0).bind fun x0_2 => some x0_2
theorem g48_ok (k : Nat) (a0 : Int) (r : Int) (h : g48 k a0 = some r) : PureOk Try.prog 48 [.int .i64 a0] (.int .i64 r) := by
 refine pure_of X48 (fun _ => rfl) Try.func48 (by decide +kernel) (by kernel_rfl) (t := g48 k a0) ?_ h
 unfold g48
 refine ok_env (env' := [(0, .int .i64 a0)]) (by kernel_rfl) ?_
 refine ok_run 8 (p' := (atN 2 (ctl1 g48p1))) (env' := [(4, .int .i64 a0), (3, .agg [.int .i64 0, .int .i64 0, .int .i64 128, .int .i64 2048, .int .i64 65536]), (2, .int .i64 0), (0, .int .i64 a0)]) (H' := (mkH [])) (by kernel_rfl) ?_
 refine ok_chk (fun (x0_2 : Int) => (.int .i64 x0_2, (mkH []))) (atN 3 (ctl1 g48p1)) (fun x0_2 => [(5, .int .i64 x0_2), (4, .int .i64 a0), (3, .agg [.int .i64 0, .int .i64 0, .int .i64 128, .int .i64 2048, .int .i64 65536]), (2, .int .i64 0), (0, .int .i64 a0)]) (aidxH v3 g48c0 (by kernel_rfl)) (fun _ => by kernel_rfl) (fun x0_2 hx0_2 => ?_)
 let E1 : Env := [(2, .int .i64 x0_2), (5, .int .i64 x0_2), (4, .int .i64 a0), (3, .agg [.int .i64 0, .int .i64 0, .int .i64 128, .int .i64 2048, .int .i64 65536]), (2, .int .i64 0), (0, .int .i64 a0)]
 refine ok_run 3 (p' := .fin) (env' := E1) (H' := (mkH [])) (by kernel_rfl) ?_
 exact ok_ret (r := x0_2) (xs := [.int .i64 x0_2]) (v := .int .i64 x0_2) (by kernel_rfl) (by kernel_rfl) (by kernel_rfl) (.pures (by kernel_rfl)) (by kernel_rfl)
end
end Go.Proofs.Ytokcjgjgojlhbaa.Am
set_option maxRecDepth 100000
set_option linter.unusedVariables false
namespace Go.Proofs.Ytokcjgjgojlhbaa.Am
noncomputable section
open Go
def X49 : Fx Bool := ⟨Try.prog, cx, Try.f49, fun r => .bool r, 0, fun _ => H0, cxTi, cxOrd⟩
def g49p0 : Pt := nav [0] (bodyAt Try.f49)
def g49p1 : Pt := nav [0, 0, 0] g49p0
def g49 (k : Nat) (a0 : Int) : Option Bool :=
 if (decide (0 ≤ a0)) then (if (decide (a0 ≤ 1114111)) then (some (!decide (shrC a0 11 = 27))) else (some false)) else (some false)
theorem g49_ok (k : Nat) (a0 : Int) (r : Bool) (h : g49 k a0 = some r) : PureOk Try.prog 49 [.int .i64 a0] (.bool r) := by
 refine pure_of X49 (fun _ => rfl) Try.func49 (by decide +kernel) (by kernel_rfl) (t := g49 k a0) ?_ h
 unfold g49
 refine ok_env (env' := [(0, .int .i64 a0)]) (by kernel_rfl) ?_
 let E1 : Env := [(5, .bool (decide (0 ≤ a0))), (4, .bool (decide (0 ≤ a0))), (3, .int .i64 a0), (2, .bool false), (0, .int .i64 a0)]
 refine ok_run 9 (p' := (atN 3 (ctl1 g49p1))) (env' := E1) (H' := (mkH [])) (by kernel_rfl) ?_
 refine ok_split 5 (b := decide (0 ≤ a0)) (by kernel_rfl) (fun hb => ?_) (fun hb => ?_)
 ·let E2 : Env := ((9, .bool (decide (a0 ≤ 1114111))) :: (8, .bool (decide (a0 ≤ 1114111))) :: (7, .bool (decide (a0 ≤ 1114111))) :: (6, .int .i64 a0) :: (5, .bool true) :: E1)
  refine ok_run 4 (p' := (atN 7 (ctl1 g49p1))) (env' := E2) (H' := (mkH [])) (by kernel_rfl) ?_
  refine ok_split 9 (b := decide (a0 ≤ 1114111)) (by kernel_rfl) (fun hb => ?_) (fun hb => ?_)
  ·let E3 : Env := ((2, .bool (!decide (shrC a0 11 = 27))) :: (13, .bool (!decide (shrC a0 11 = 27))) :: (12, .bool (!decide (shrC a0 11 = 27))) :: (11, .int .i64 (shrC a0 11)) :: (10, .int .i64 a0) :: (9, .bool true) :: E2)
   refine ok_run 7 (p' := .fin) (env' := E3) (H' := (mkH [])) (by kernel_rfl) ?_
   exact ok_ret (r := (!decide (shrC a0 11 = 27))) (xs := [.bool (!decide (shrC a0 11 = 27))]) (v := .bool (!decide (shrC a0 11 = 27))) (by kernel_rfl) (by kernel_rfl) (by kernel_rfl) (.pures (by kernel_rfl)) (by kernel_rfl)
  ·let E4 : Env := ((2, .bool false) :: (13, .bool false) :: (12, .tuple []) :: (11, .tuple []) :: (10, .tuple []) :: (9, .bool false) :: E2)
   refine ok_run 7 (p' := .fin) (env' := E4) (H' := (mkH [])) (by kernel_rfl) ?_
   exact ok_ret (r := false) (xs := [.bool false]) (v := .bool false) (by kernel_rfl) (by kernel_rfl) (by kernel_rfl) (.pures (by kernel_rfl)) (by kernel_rfl)
 ·let E5 : Env := ((2, .bool false) :: (13, .bool false) :: (12, .tuple []) :: (11, .tuple []) :: (10, .tuple []) :: (9, .bool false) :: (8, .bool false) :: (7, .tuple []) :: (6, .tuple []) :: (5, .bool false) :: E1)
  refine ok_run 11 (p' := .fin) (env' := E5) (H' := (mkH [])) (by kernel_rfl) ?_
  exact ok_ret (r := false) (xs := [.bool false]) (v := .bool false) (by kernel_rfl) (by kernel_rfl) (by kernel_rfl) (.pures (by kernel_rfl)) (by kernel_rfl)
end
end Go.Proofs.Ytokcjgjgojlhbaa.Am
set_option maxRecDepth 100000
set_option linter.unusedVariables false
namespace Go.Proofs.Ytokcjgjgojlhbaa.Am
noncomputable section
open Go
def X31 : Fx (Int × Int) := ⟨Try.prog, cx, Try.f31, fun r => .tuple [.int .i64 r.1, .int .i64 r.2], 0, fun _ => H0, cxTi, cxOrd⟩
def g31p0 : Pt := nav [0] (bodyAt Try.f31)
def g31p1 : Pt := nav [0, 0, 0, 0] g31p0
def g31p2 : Pt := nav [0, 0] g31p1
def g31p4 : Pt := nav [2, 0, 0] g31p2
def g31p6 : Pt := nav [0, 0, 0, 0] g31p4
def g31p7 : Pt := nav [0, 0] g31p6
def g31p9 : Pt := nav [2, 0, 0, 0] g31p7
def g31p10 : Pt := nav [0, 0, 0, 0] g31p9
def g31p11 : Pt := nav [0, 0, 0] g31p10
def g31p12 : Pt := nav [0, 0] g31p11
def g31p13 : Pt := nav [1, 0, 0, 0, 0] g31p12
def g31p14 : Pt := nav [2, 0, 0, 0] g31p12
def g31p15 : Pt := nav [0, 0, 0, 0] g31p13
def g31p16 : Pt := nav [0, 0] g31p14
def g31p17 : Pt := nav [0, 0] g31p15
def g31p21 : Pt := nav [2, 0] g31p17
def g31p22 : Pt := nav [0, 0] g31p21
def g31_l5 (k : Nat)  (a0 : (List Nat)) (a1 : Int) (x0_3 : (Int × Int)) (n : Nat) : Int → Int → Option (Int × Int) :=
 Nat.rec (motive := fun _ => Int → Int → Option (Int × Int)) (fun _ _ => none) (fun _ ih => fun (y5_0 : Int) (y5_1 : Int) => if (decide (y5_1 < x0_3.1)) then ((nthS a0 (fwrap .i64 (a1 + y5_1))).bind fun x1_4 => if (!decide (shrC x1_4 6 = 2)) then (some (((-1) : Int), (1 : Int))) else (ih (orI .i64 (shlC .i64 y5_0 6) (fwrap .i64 (andI .u8 x1_4 63))) (fwrap .i64 (y5_1 + 1)))) else ((g48 k x0_3.1).bind fun x2_2 => jn (fun (z6 : Bool × Int) => if z6.1 then (some (((-1) : Int), (1 : Int))) else (some (z6.2, x0_3.1))) (fun j6 => if (decide (y5_0 < x2_2)) then (j6 (true, y5_0)) else ((g49 k y5_0).bind fun x2_6 => j6 (!x2_6, y5_0))))) n
theorem g31_l5_s (k : Nat)  (a0 : (List Nat)) (a1 : Int) (x0_3 : (Int × Int)) (n : Nat) (y5_0 : Int) (y5_1 : Int) : g31_l5 k a0 a1 x0_3 (n + 1) y5_0 y5_1 = (if (decide (y5_1 < x0_3.1)) then ((nthS a0 (fwrap .i64 (a1 + y5_1))).bind fun x1_4 => if (!decide (shrC x1_4 6 = 2)) then (some (((-1) : Int), (1 : Int))) else ((g31_l5 k a0 a1 x0_3 n) (orI .i64 (shlC .i64 y5_0 6) (fwrap .i64 (andI .u8 x1_4 63))) (fwrap .i64 (y5_1 + 1)))) else ((g48 k x0_3.1).bind fun x2_2 => jn (fun (z6 : Bool × Int) => if z6.1 then (some (((-1) : Int), (1 : Int))) else (some (z6.2, x0_3.1))) (fun j6 => if (decide (y5_0 < x2_2)) then (j6 (true, y5_0)) else ((g49 k y5_0).bind fun x2_6 => j6 (!x2_6, y5_0))))) := rfl
theorem g31_l5_ok (k : Nat)  (a0 : (List Nat)) (a1 : Int) (x0_3 : (Int × Int))  : ∀ (n : Nat) (y5_0 : Int) (y5_1 : Int), Ok X31 g31p10 [(0, .str a0), (1, .int .i64 a1), (6, .int .i64 x0_3.1), (7, .int .i64 y5_0), (8, .int .i64 y5_1)] (mkH []) (g31_l5 k a0 a1 x0_3 n y5_0 y5_1)
 | 0, _, _ => ok_none
 | n + 1, y5_0, y5_1 => by
  have ih := g31_l5_ok k a0 a1 x0_3 n
  rw [g31_l5_s]
  refine ok_ent (p' := nav [0] g31p10) (by kernel_rfl) ?_
  let E8 : Env := [(37, .bool (decide (y5_1 < x0_3.1))), (36, .int .i64 x0_3.1), (35, .int .i64 y5_1), (0, .str a0), (1, .int .i64 a1), (6, .int .i64 x0_3.1), (7, .int .i64 y5_0), (8, .int .i64 y5_1)]
  refine ok_run 7 (p' := g31p12) (env' := E8) (H' := (mkH [])) (by kernel_rfl) ?_
  refine ok_split 37 (b := decide (y5_1 < x0_3.1)) (by kernel_rfl) (fun hb => ?_) (fun hb => ?_)
  ·let E9 : Env := ((43, .int .i64 (fwrap .i64 (a1 + y5_1))) :: (42, .int .i64 y5_1) :: (41, .int .i64 a1) :: (40, .str a0) :: (37, .bool true) :: E8)
   refine ok_run 10 (p' := (atN 4 (ctl1 g31p13))) (env' := E9) (H' := (mkH [])) (by kernel_rfl) ?_
   refine ok_chk (fun (x1_4 : Int) => (.int .u8 x1_4, (mkH []))) (atN 5 (ctl1 g31p13)) (fun x1_4 => ((44, .int .u8 x1_4) :: E9)) (idxH (by kernel_rfl)) (fun _ => by kernel_rfl) (fun x1_4 hx1_4 => ?_)
   refine ok_run 4 (p' := g31p15) (env' := ((9, .int .u8 x1_4) :: (44, .int .u8 x1_4) :: E9)) (H' := (mkH [])) (by kernel_rfl) ?_
   refine ok_keep [0, 1, 6, 7, 8, 9] (env' := [(0, .str a0), (1, .int .i64 a1), (6, .int .i64 x0_3.1), (7, .int .i64 y5_0), (8, .int .i64 y5_1), (9, .int .u8 x1_4)]) (by kernel_rfl) ?_
   let E10 : Env := [(47, .bool (!decide (shrC x1_4 6 = 2))), (46, .int .u8 (shrC x1_4 6)), (45, .int .u8 x1_4), (0, .str a0), (1, .int .i64 a1), (6, .int .i64 x0_3.1), (7, .int .i64 y5_0), (8, .int .i64 y5_1), (9, .int .u8 x1_4)]
   refine ok_run 5 (p' := g31p17) (env' := E10) (H' := (mkH [])) (by kernel_rfl) ?_
   refine ok_split 47 (b := !decide (shrC x1_4 6 = 2)) (by kernel_rfl) (fun hb => ?_) (fun hb => ?_)
   ·refine ok_run 7 (p' := .fin) (env' := ((5, .int .i64 1) :: (4, .int .i64 (-1)) :: (47, .bool true) :: E10)) (H' := (mkH [])) (by kernel_rfl) ?_
    exact ok_ret (r := (((-1) : Int), (1 : Int))) (xs := [.int .i64 (-1), .int .i64 1]) (v := .tuple [.int .i64 (-1), .int .i64 1]) (by kernel_rfl) (by kernel_rfl) (by kernel_rfl) (.pures (by kernel_rfl)) (by kernel_rfl)
   ·let E11 : Env := ((7, .int .i64 (orI .i64 (shlC .i64 y5_0 6) (fwrap .i64 (andI .u8 x1_4 63)))) :: (53, .int .i64 (orI .i64 (shlC .i64 y5_0 6) (fwrap .i64 (andI .u8 x1_4 63)))) :: (52, .int .i64 (fwrap .i64 (andI .u8 x1_4 63))) :: (51, .int .u8 (andI .u8 x1_4 63)) :: (50, .int .u8 x1_4) :: (49, .int .i64 (shlC .i64 y5_0 6)) :: (48, .int .i64 y5_0) :: (47, .bool false) :: E10)
    refine ok_run 11 (p' := g31p22) (env' := E11) (H' := (mkH [])) (by kernel_rfl) ?_
    refine ok_keep [0, 1, 6, 7, 8] (env' := [(0, .str a0), (1, .int .i64 a1), (6, .int .i64 x0_3.1), (7, .int .i64 (orI .i64 (shlC .i64 y5_0 6) (fwrap .i64 (andI .u8 x1_4 63)))), (8, .int .i64 y5_1)]) (by kernel_rfl) ?_
    let E12 : Env := [(8, .int .i64 (fwrap .i64 (y5_1 + 1))), (39, .int .i64 (fwrap .i64 (y5_1 + 1))), (38, .int .i64 y5_1), (0, .str a0), (1, .int .i64 a1), (6, .int .i64 x0_3.1), (7, .int .i64 (orI .i64 (shlC .i64 y5_0 6) (fwrap .i64 (andI .u8 x1_4 63)))), (8, .int .i64 y5_1)]
    refine ok_run 5 (p' := g31p10) (env' := E12) (H' := (mkH [])) (by kernel_rfl) ?_
    refine ok_keep [0, 1, 6, 7, 8] (env' := [(0, .str a0), (1, .int .i64 a1), (6, .int .i64 x0_3.1), (7, .int .i64 (orI .i64 (shlC .i64 y5_0 6) (fwrap .i64 (andI .u8 x1_4 63)))), (8, .int .i64 (fwrap .i64 (y5_1 + 1)))]) (by kernel_rfl) ?_
    exact ih (orI .i64 (shlC .i64 y5_0 6) (fwrap .i64 (andI .u8 x1_4 63))) (fwrap .i64 (y5_1 + 1))
  ·refine ok_run 7 (p' := (atN 2 (ctl1 g31p14))) (env' := ((55, .int .i64 x0_3.1) :: (54, .int .i64 y5_0) :: (37, .bool false) :: E8)) (H' := (mkH [])) (by kernel_rfl) ?_
   refine ok_call (fun (x2_2 : Int) => .int .i64 x2_2) (atN 3 (ctl1 g31p14)) (fun x2_2 => ((56, .int .i64 x2_2) :: (55, .int .i64 x0_3.1) :: (54, .int .i64 y5_0) :: (37, .bool false) :: E8)) (fi := 48) (args := [.int .i64 x0_3.1]) (by kernel_rfl) (by kernel_rfl) (fun _ => by kernel_rfl) (fun r h => g48_ok k x0_3.1 r h) (fun _ => by kernel_rfl) (fun x2_2 hx2_2 => ?_)
   let E13 : Env := ((58, .bool (decide (y5_0 < x2_2))) :: (57, .bool (decide (y5_0 < x2_2))) :: (56, .int .i64 x2_2) :: (55, .int .i64 x0_3.1) :: (54, .int .i64 y5_0) :: (37, .bool false) :: E8)
   refine ok_run 2 (p' := (atN 5 (ctl1 g31p14))) (env' := E13) (H' := (mkH [])) (by kernel_rfl) ?_
   refine ok_jn (f := fun (z6 : Bool × Int) => if z6.1 then (some (((-1) : Int), (1 : Int))) else (some (z6.2, x0_3.1))) g31p16 (fun (z6 : Bool × Int) => [(6, .int .i64 x0_3.1), (7, .int .i64 z6.2), (62, .bool z6.1)]) (fun (z6 : Bool × Int) => (mkH [])) (fun z6 => ?_) (fun j6 hj6 => ?_)
   ·refine ok_split 62 (b := z6.1) (by kernel_rfl) (fun hb => ?_) (fun hb => ?_)
    ·let E14 : Env := [(5, .int .i64 1), (4, .int .i64 (-1)), (62, .bool true), (6, .int .i64 x0_3.1), (7, .int .i64 z6.2), (62, .bool z6.1)]
     refine ok_run 7 (p' := .fin) (env' := E14) (H' := (mkH [])) (by kernel_rfl) ?_
     exact ok_ret (r := (((-1) : Int), (1 : Int))) (xs := [.int .i64 (-1), .int .i64 1]) (v := .tuple [.int .i64 (-1), .int .i64 1]) (by kernel_rfl) (by kernel_rfl) (by kernel_rfl) (.pures (by kernel_rfl)) (by kernel_rfl)
    ·let E15 : Env := [(5, .int .i64 x0_3.1), (4, .int .i64 z6.2), (64, .int .i64 x0_3.1), (63, .int .i64 z6.2), (62, .bool false), (6, .int .i64 x0_3.1), (7, .int .i64 z6.2), (62, .bool z6.1)]
     refine ok_run 10 (p' := .fin) (env' := E15) (H' := (mkH [])) (by kernel_rfl) ?_
     exact ok_ret (r := (z6.2, x0_3.1)) (xs := [.int .i64 z6.2, .int .i64 x0_3.1]) (v := .tuple [.int .i64 z6.2, .int .i64 x0_3.1]) (by kernel_rfl) (by kernel_rfl) (by kernel_rfl) (.pures (by kernel_rfl)) (by kernel_rfl)
   ·refine ok_split 58 (b := decide (y5_0 < x2_2)) (by kernel_rfl) (fun hb => ?_) (fun hb => ?_)
    ·let E16 : Env := ((62, .bool true) :: (61, .tuple []) :: (60, .tuple []) :: (59, .tuple []) :: (58, .bool true) :: E13)
     refine ok_run 5 (p' := g31p16) (env' := E16) (H' := (mkH [])) (by kernel_rfl) ?_
     refine ok_keep [6, 7, 62] (env' := [(6, .int .i64 x0_3.1), (7, .int .i64 y5_0), (62, .bool true)]) (by kernel_rfl) ?_
     exact hj6 (true, y5_0)
    ·refine ok_run 1 (p' := (atN 6 (ctl1 g31p14))) (env' := ((59, .int .i64 y5_0) :: (58, .bool false) :: E13)) (H' := (mkH [])) (by kernel_rfl) ?_
     refine ok_call (fun (x2_6 : Bool) => .bool x2_6) (atN 7 (ctl1 g31p14)) (fun x2_6 => ((60, .bool x2_6) :: (59, .int .i64 y5_0) :: (58, .bool false) :: E13)) (fi := 49) (args := [.int .i64 y5_0]) (by kernel_rfl) (by kernel_rfl) (fun _ => by kernel_rfl) (fun r h => g49_ok k y5_0 r h) (fun _ => by kernel_rfl) (fun x2_6 hx2_6 => ?_)
     let E17 : Env := ((62, .bool (!x2_6)) :: (61, .bool (!x2_6)) :: (60, .bool x2_6) :: (59, .int .i64 y5_0) :: (58, .bool false) :: E13)
     refine ok_run 3 (p' := g31p16) (env' := E17) (H' := (mkH [])) (by kernel_rfl) ?_
     refine ok_keep [6, 7, 62] (env' := [(6, .int .i64 x0_3.1), (7, .int .i64 y5_0), (62, .bool (!x2_6))]) (by kernel_rfl) ?_
     exact hj6 (!x2_6, y5_0)
def g31 (k : Nat) (a0 : (List Nat)) (a1 : Int) : Option (Int × Int) :=
 jn (fun (z3 : Bool) => if z3 then (some ((0 : Int), (0 : Int))) else ((nthS a0 a1).bind fun x0_2 => (g47 k x0_2).bind fun x0_3 => jn (fun (z4 : Bool) => if z4 then (some (((-1) : Int), (1 : Int))) else (g31_l5 k a0 a1 x0_3 k x0_3.2 1)) (fun j4 => if (decide (x0_3.1 = 0)) then (j4 true) else (j4 (decide (fwrap .i64 ((a0.length : Int) - a1) < x0_3.1)))))) (fun j3 => if (decide (a1 < 0)) then (j3 true) else (j3 (decide ((a0.length : Int) ≤ a1))))
theorem g31_ok (k : Nat) (a0 : (List Nat)) (a1 : Int) (r : (Int × Int)) (h : g31 k a0 a1 = some r) : PureOk Try.prog 31 [.str a0, .int .i64 a1] (.tuple [.int .i64 r.1, .int .i64 r.2]) := by
 refine pure_of X31 (fun _ => rfl) Try.func31 (by decide +kernel) (by kernel_rfl) (t := g31 k a0 a1) ?_ h
 unfold g31
 refine ok_env (env' := [(0, .str a0), (1, .int .i64 a1)]) (by kernel_rfl) ?_
 let E1 : Env := [(12, .bool (decide (a1 < 0))), (11, .bool (decide (a1 < 0))), (10, .int .i64 a1), (5, .int .i64 0), (4, .int .i64 0), (0, .str a0), (1, .int .i64 a1)]
 refine ok_run 11 (p' := (atN 3 (ctl1 g31p1))) (env' := E1) (H' := (mkH [])) (by kernel_rfl) ?_
 refine ok_jn (f := fun (z3 : Bool) => if z3 then (some ((0 : Int), (0 : Int))) else ((nthS a0 a1).bind fun x0_2 => (g47 k x0_2).bind fun x0_3 => jn (fun (z4 : Bool) => if z4 then (some (((-1) : Int), (1 : Int))) else (g31_l5 k a0 a1 x0_3 k x0_3.2 1)) (fun j4 => if (decide (x0_3.1 = 0)) then (j4 true) else (j4 (decide (fwrap .i64 ((a0.length : Int) - a1) < x0_3.1)))))) g31p2 (fun (z3 : Bool) => [(0, .str a0), (1, .int .i64 a1), (17, .bool z3)]) (fun (z3 : Bool) => (mkH [])) (fun z3 => ?_) (fun j3 hj3 => ?_)
 ·refine ok_split 17 (b := z3) (by kernel_rfl) (fun hb => ?_) (fun hb => ?_)
  ·let E2 : Env := [(5, .int .i64 0), (4, .int .i64 0), (17, .bool true), (0, .str a0), (1, .int .i64 a1), (17, .bool z3)]
   refine ok_run 7 (p' := .fin) (env' := E2) (H' := (mkH [])) (by kernel_rfl) ?_
   exact ok_ret (r := ((0 : Int), (0 : Int))) (xs := [.int .i64 0, .int .i64 0]) (v := .tuple [.int .i64 0, .int .i64 0]) (by kernel_rfl) (by kernel_rfl) (by kernel_rfl) (.pures (by kernel_rfl)) (by kernel_rfl)
  ·let E3 : Env := [(20, .int .i64 a1), (19, .str a0), (17, .bool false), (0, .str a0), (1, .int .i64 a1), (17, .bool z3)]
   refine ok_run 6 (p' := (atN 2 (ctl1 g31p4))) (env' := E3) (H' := (mkH [])) (by kernel_rfl) ?_
   refine ok_chk (fun (x0_2 : Int) => (.int .u8 x0_2, (mkH []))) (atN 3 (ctl1 g31p4)) (fun x0_2 => ((21, .int .u8 x0_2) :: E3)) (idxH (by kernel_rfl)) (fun _ => by kernel_rfl) (fun x0_2 hx0_2 => ?_)
   refine ok_call (fun (x0_3 : (Int × Int)) => .tuple [.int .i64 x0_3.1, .int .i64 x0_3.2]) (atN 4 (ctl1 g31p4)) (fun x0_3 => ((22, .tuple [.int .i64 x0_3.1, .int .i64 x0_3.2]) :: (21, .int .u8 x0_2) :: E3)) (fi := 47) (args := [.int .u8 x0_2]) (by kernel_rfl) (by kernel_rfl) (fun _ => by kernel_rfl) (fun r h => g47_ok k x0_2 r h) (fun _ => by kernel_rfl) (fun x0_3 hx0_3 => ?_)
   let E4 : Env := ((7, .int .i64 x0_3.2) :: (6, .int .i64 x0_3.1) :: (24, .int .i64 x0_3.2) :: (23, .int .i64 x0_3.1) :: (18, .tuple [.int .i64 x0_3.1, .int .i64 x0_3.2]) :: (22, .tuple [.int .i64 x0_3.1, .int .i64 x0_3.2]) :: (21, .int .u8 x0_2) :: E3)
   refine ok_run 8 (p' := g31p6) (env' := E4) (H' := (mkH [])) (by kernel_rfl) ?_
   refine ok_keep [0, 1, 6, 7] (env' := [(0, .str a0), (1, .int .i64 a1), (6, .int .i64 x0_3.1), (7, .int .i64 x0_3.2)]) (by kernel_rfl) ?_
   let E5 : Env := [(27, .bool (decide (x0_3.1 = 0))), (26, .bool (decide (x0_3.1 = 0))), (25, .int .i64 x0_3.1), (0, .str a0), (1, .int .i64 a1), (6, .int .i64 x0_3.1), (7, .int .i64 x0_3.2)]
   refine ok_run 4 (p' := (atN 3 (ctl1 g31p6))) (env' := E5) (H' := (mkH [])) (by kernel_rfl) ?_
   refine ok_jn (f := fun (z4 : Bool) => if z4 then (some (((-1) : Int), (1 : Int))) else (g31_l5 k a0 a1 x0_3 k x0_3.2 1)) g31p7 (fun (z4 : Bool) => [(0, .str a0), (1, .int .i64 a1), (6, .int .i64 x0_3.1), (7, .int .i64 x0_3.2), (34, .bool z4)]) (fun (z4 : Bool) => (mkH [])) (fun z4 => ?_) (fun j4 hj4 => ?_)
   ·refine ok_split 34 (b := z4) (by kernel_rfl) (fun hb => ?_) (fun hb => ?_)
    ·let E6 : Env := [(5, .int .i64 1), (4, .int .i64 (-1)), (34, .bool true), (0, .str a0), (1, .int .i64 a1), (6, .int .i64 x0_3.1), (7, .int .i64 x0_3.2), (34, .bool z4)]
     refine ok_run 7 (p' := .fin) (env' := E6) (H' := (mkH [])) (by kernel_rfl) ?_
     exact ok_ret (r := (((-1) : Int), (1 : Int))) (xs := [.int .i64 (-1), .int .i64 1]) (v := .tuple [.int .i64 (-1), .int .i64 1]) (by kernel_rfl) (by kernel_rfl) (by kernel_rfl) (.pures (by kernel_rfl)) (by kernel_rfl)
    ·let E7 : Env := [(8, .int .i64 1), (34, .bool false), (0, .str a0), (1, .int .i64 a1), (6, .int .i64 x0_3.1), (7, .int .i64 x0_3.2), (34, .bool z4)]
     refine ok_run 9 (p' := g31p10) (env' := E7) (H' := (mkH [])) (by kernel_rfl) ?_
     refine ok_keep [0, 1, 6, 7, 8] (env' := [(0, .str a0), (1, .int .i64 a1), (6, .int .i64 x0_3.1), (7, .int .i64 x0_3.2), (8, .int .i64 1)]) (by kernel_rfl) ?_
     exact (g31_l5_ok k a0 a1 x0_3 k) x0_3.2 1
   ·refine ok_split 27 (b := decide (x0_3.1 = 0)) (by kernel_rfl) (fun hb => ?_) (fun hb => ?_)
    ·let E18 : Env := ((34, .bool true) :: (33, .tuple []) :: (32, .tuple []) :: (31, .tuple []) :: (30, .tuple []) :: (29, .tuple []) :: (28, .tuple []) :: (27, .bool true) :: E5)
     refine ok_run 8 (p' := g31p7) (env' := E18) (H' := (mkH [])) (by kernel_rfl) ?_
     refine ok_keep [0, 1, 6, 7, 34] (env' := [(0, .str a0), (1, .int .i64 a1), (6, .int .i64 x0_3.1), (7, .int .i64 x0_3.2), (34, .bool true)]) (by kernel_rfl) ?_
     exact hj4 true
    ·let E19 : Env := ((34, .bool (decide (fwrap .i64 ((a0.length : Int) - a1) < x0_3.1))) :: (33, .bool (decide (fwrap .i64 ((a0.length : Int) - a1) < x0_3.1))) :: (32, .int .i64 (fwrap .i64 ((a0.length : Int) - a1))) :: (31, .int .i64 a1) :: (30, .int .i64 (a0.length : Int)) :: (29, .str a0) :: (28, .int .i64 x0_3.1) :: (27, .bool false) :: E5)
     refine ok_run 8 (p' := g31p7) (env' := E19) (H' := (mkH [])) (by kernel_rfl) ?_
     refine ok_keep [0, 1, 6, 7, 34] (env' := [(0, .str a0), (1, .int .i64 a1), (6, .int .i64 x0_3.1), (7, .int .i64 x0_3.2), (34, .bool (decide (fwrap .i64 ((a0.length : Int) - a1) < x0_3.1)))]) (by kernel_rfl) ?_
     exact hj4 (decide (fwrap .i64 ((a0.length : Int) - a1) < x0_3.1))
 ·refine ok_split 12 (b := decide (a1 < 0)) (by kernel_rfl) (fun hb => ?_) (fun hb => ?_)
  ·let E20 : Env := ((17, .bool true) :: (16, .tuple []) :: (15, .tuple []) :: (14, .tuple []) :: (13, .tuple []) :: (12, .bool true) :: E1)
   refine ok_run 6 (p' := g31p2) (env' := E20) (H' := (mkH [])) (by kernel_rfl) ?_
   refine ok_keep [0, 1, 17] (env' := [(0, .str a0), (1, .int .i64 a1), (17, .bool true)]) (by kernel_rfl) ?_
   exact hj3 true
  ·let E21 : Env := ((17, .bool (decide ((a0.length : Int) ≤ a1))) :: (16, .bool (decide ((a0.length : Int) ≤ a1))) :: (15, .int .i64 (a0.length : Int)) :: (14, .str a0) :: (13, .int .i64 a1) :: (12, .bool false) :: E1)
   refine ok_run 6 (p' := g31p2) (env' := E21) (H' := (mkH [])) (by kernel_rfl) ?_
   refine ok_keep [0, 1, 17] (env' := [(0, .str a0), (1, .int .i64 a1), (17, .bool (decide ((a0.length : Int) ≤ a1)))]) (by kernel_rfl) ?_
   exact hj3 (decide ((a0.length : Int) ≤ a1))
end
end Go.Proofs.Ytokcjgjgojlhbaa.Am
set_option maxRecDepth 100000
set_option linter.unusedVariables false
namespace Go.Proofs.Ytokcjgjgojlhbaa.Am
noncomputable section
open Go
def g50 (k : Nat) (a0 : Int) : Option Bool :=
 if (decide (0 ≤ a0)) then (if (decide (a0 ≤ 1114111)) then (if (decide (a0 < 55296)) then (some true) else (some (decide (57343 < a0)))) else (some false)) else (some false)
end
end Go.Proofs.Ytokcjgjgojlhbaa.Am
set_option maxRecDepth 100000
set_option linter.unusedVariables false
namespace Go.Proofs.Ytokcjgjgojlhbaa.Am
open Go
theorem nthS_at {s : List Nat} {i b : Nat} {r : List Nat} (h : s.drop i = b :: r) : nthS s (i : Int) = some (b : Int) := by
 have e : s[i]? = some b := by
  have := List.getElem?_drop (xs := s) (i := i) (j := 0)
  rw [h] at this
  simpa using this.symm
 unfold nthS
 rw [if_pos (by omega)]
 simp [e]
theorem drop_cons {s : List Nat} {i : Nat} (h : i < s.length) : ∃ b r, s.drop i = b :: r ∧ s.drop (i + 1) = r ∧ b ∈ s := by
 refine ⟨s[i], s.drop (i + 1), ?_, rfl, List.getElem_mem h⟩
 exact List.drop_eq_getElem_cons h
def byteOk (b : Nat) : Bool := decide (andI .u8 (b : Int) 63 = ((b % 64 : Nat) : Int)) && decide (andI .u8 (b : Int) 31 = ((b % 32 : Nat) : Int)) && decide (andI .u8 (b : Int) 15 = ((b % 16 : Nat) : Int)) && decide (andI .u8 (b : Int) 7 = ((b % 8 : Nat) : Int)) && (decide (andI .u8 (b : Int) 192 = 128) == decide (b / 64 = 2))
theorem byteOk_all : ((List.range 256).all byteOk) = true := by decide +kernel
theorem byte_ok {b : Nat} (h : b < 256) : andI .u8 (b : Int) 63 = ((b % 64 : Nat) : Int) ∧ andI .u8 (b : Int) 31 = ((b % 32 : Nat) : Int) ∧ andI .u8 (b : Int) 15 = ((b % 16 : Nat) : Int) ∧ andI .u8 (b : Int) 7 = ((b % 8 : Nat) : Int) ∧ (andI .u8 (b : Int) 192 = 128 ↔ b / 64 = 2) := by
 have w := List.all_eq_true.1 byteOk_all b (List.mem_range.2 h)
 simp only [byteOk, Bool.and_eq_true, decide_eq_true_eq, beq_iff_eq] at w
 obtain ⟨⟨⟨⟨w1, w2⟩, w3⟩, w4⟩, w5⟩ := w
 refine ⟨w1, w2, w3, w4, ?_⟩
 constructor
 ·intro h
  rw [decide_eq_true h] at w5
  exact of_decide_eq_true w5.symm
 ·intro h
  rw [decide_eq_true h] at w5
  exact of_decide_eq_true w5
theorem shrC_nat (x : Nat) (n : Nat) : shrC (x : Int) n = ((x / 2 ^ n : Nat) : Int) := by
 unfold shrC
 rw [Int.fdiv_eq_ediv_of_nonneg _ (by exact Int.le_of_lt (Int.pow_pos (by decide)))]
 push_cast
 rfl
theorem fwn (x : Nat) (h : x ≤ 9223372036854775807) : fwrap .i64 (x : Int) = x := fw64 _ (by omega) (by omega)
theorem or_add (y m : Nat) (hy : y < 1125899906842624) (hm : m < 64) : orI .i64 (shlC .i64 (y : Int) 6) (m : Int) = ((y * 64 + m : Nat) : Int) := by
 have e1 : shlC .i64 (y : Int) 6 = ((y * 64 : Nat) : Int) := by
  unfold shlC
  have : (y : Int) * 2 ^ 6 = ((y * 64 : Nat) : Int) := by push_cast; omega
  rw [this, fwn _ (by omega)]
 rw [e1]
 unfold orI
 have e2 : ∀ x : Nat, x < 2 ^ 63 → (BitVec.ofInt IntKind.i64.bits (x : Int)).toNat = x := by
  intro x hx
  show (BitVec.ofInt 64 (x : Int)).toNat = x
  rw [BitVec.toNat_ofInt]
  omega
 rw [BitVec.toNat_or, e2 _ (by omega), e2 _ (by omega)]
 have e3 : y * 64 ||| m = y * 64 + m := by
  have h := Nat.two_pow_add_eq_or_of_lt (i := 6) hm y
  rw [Nat.mul_comm y 64]
  exact h.symm
 rw [e3, fwn _ (by omega)]
def leadN (c : Nat) : Nat × Nat := if c < 128 then (1, c) else if c / 32 = 6 then (2, c % 32) else if c / 16 = 14 then (3, c % 16) else if c / 8 = 30 then (4, c % 8) else (0, 0)
def moreN : Nat → Nat → List Nat → Option Nat
 | 0, c, _ => some c
 | _ + 1, _, [] => none
 | n + 1, c, b :: r => if b / 64 = 2 then moreN n (c * 64 + b % 64) r else none
def leastN (n : Nat) : Nat := if n = 2 then 128 else if n = 3 then 2048 else if n = 4 then 65536 else 0
def cpN (c : Nat) : Bool := decide (c ≤ 1114111) && !(decide (55296 ≤ c) && decide (c ≤ 57343))
def fitN (n : Nat) : Option Nat → Int × Int
 | none => (-1, 1)
 | some y => if leastN n ≤ y ∧ cpN y = true then ((y : Int), (n : Int)) else (-1, 1)
def dec : List Nat → Int × Int
 | [] => (0, 0)
 | c :: r => if (leadN c).1 = 0 then (-1, 1) else fitN (leadN c).1 (moreN ((leadN c).1 - 1) (leadN c).2 r)
theorem moreN_none : ∀ (n c : Nat) (r : List Nat), r.length < n → moreN n c r = none
 | 0, c, r, h => by omega
 | n + 1, c, [], h => rfl
 | n + 1, c, b :: r, h => by
  unfold moreN
  split
  ·exact moreN_none n _ r (by simp at h; omega)
  ·rfl
theorem lead_at {k c : Nat} (h : c < 256) : g47 k (c : Int) = some (((leadN c).1 : Int), ((leadN c).2 : Int)) := by
 obtain ⟨-, b31, b15, b7, -⟩ := byte_ok h
 unfold g47 leadN
 simp only [shrC_nat, b31, b15, b7]
 have p5 : (2 : Nat) ^ 5 = 32 := rfl
 have p4 : (2 : Nat) ^ 4 = 16 := rfl
 have p3 : (2 : Nat) ^ 3 = 8 := rfl
 rw [p5, p4, p3]
 repeat' split
 all_goals first | (simp only [decide_eq_true_eq] at *; omega) | (simp only []; rw [fwn _ (by omega)]; try rfl) | rfl
theorem cp_at {k c : Nat} : g49 k (c : Int) = some (cpN c) := by
 unfold g49 cpN
 simp only [shrC_nat]
 have p : (2 : Nat) ^ 11 = 2048 := rfl
 rw [p]
 by_cases h1 : c ≤ 1114111
 ·have e1 : decide ((0 : Int) ≤ (c : Int)) = true := by simp
  have e2 : decide ((c : Int) ≤ 1114111) = true := by simp; omega
  have e3 : decide (((c / 2048 : Nat) : Int) = 27) = (decide (55296 ≤ c) && decide (c ≤ 57343)) := by
   rw [Bool.eq_iff_iff]; simp; omega
  rw [e1, e2, e3, decide_eq_true h1]
  rfl
 ·have e2 : decide ((c : Int) ≤ 1114111) = false := by simp; omega
  simp [e2, h1]
theorem least_at {k n : Nat} (h : n ≤ 4) : g48 k (n : Int) = some ((leastN n : Nat) : Int) := by
 have : n = 0 ∨ n = 1 ∨ n = 2 ∨ n = 3 ∨ n = 4 := by omega
 obtain rfl | rfl | rfl | rfl | rfl := this <;> rfl
end Go.Proofs.Ytokcjgjgojlhbaa.Am
set_option maxRecDepth 100000
set_option linter.unusedVariables false
set_option linter.unusedSimpArgs false
namespace Go.Proofs.Ytokcjgjgojlhbaa.Am
open Go
theorem pow64_le {i : Nat} (h : i ≤ 3) : 64 ^ i ≤ 262144 := by
 have : i = 0 ∨ i = 1 ∨ i = 2 ∨ i = 3 := by omega
 obtain rfl | rfl | rfl | rfl := this <;> decide
theorem pow64_step {y i b : Nat} (h : y < 64 ^ i) : y * 64 + b % 64 < 64 ^ (i + 1) := by
 rw [Nat.pow_succ]
 have := Nat.mod_lt b (by decide : 0 < 64)
 generalize 64 ^ i = P at h ⊢
 omega
theorem next_l (k : Nat) (s : List Nat) (hs : ∀ b ∈ s, b < 256) (hl : s.length ≤ 140737488351232) (at' n q : Nat) (hn : n ≤ 4) (hat : at' + n ≤ s.length) : ∀ (d m i y : Nat), i + d = n → 1 ≤ i → y < 64 ^ i →
 g31_l5 k s (at' : Int) ((n : Int), (q : Int)) (d + 1 + m) (y : Int) (i : Int) = some (fitN n (moreN d y (s.drop (at' + i))))
 | 0, m, i, y, hi, h1, hy => by
  rw [show 0 + 1 + m = m + 1 from by omega, g31_l5_s]
  have e1 : decide ((i : Int) < (n : Int)) = false := by simp; omega
  simp only [e1, least_at hn, cp_at, moreN, fitN, Option.bind_some, jn]
  by_cases h : leastN n ≤ y
  ·have e2 : decide ((y : Int) < ((leastN n : Nat) : Int)) = false := by simp; omega
   cases hc : cpN y <;> simp [e2, h, hc]
  ·have e2 : decide ((y : Int) < ((leastN n : Nat) : Int)) = true := by simp; omega
   simp [e2, h]
 | d + 1, m, i, y, hi, h1, hy => by
  rw [show d + 1 + 1 + m = (d + 1 + m) + 1 from by omega, g31_l5_s]
  have e1 : decide ((i : Int) < (n : Int)) = true := by simp; omega
  obtain ⟨b, r, hb, hr, hm⟩ := drop_cons (s := s) (i := at' + i) (by omega)
  have e2 : fwrap .i64 ((at' : Int) + (i : Int)) = ((at' + i : Nat) : Int) := by
   have : (at' : Int) + (i : Int) = ((at' + i : Nat) : Int) := by push_cast; rfl
   rw [this, fwn _ (by omega)]
  obtain ⟨b63, -, -, -, -⟩ := byte_ok (hs b hm)
  have hi4 : i ≤ 3 := by omega
  have a1 : i + 1 + d = n := by rw [← hi]; exact Nat.add_right_comm i 1 d
  have a2 : 1 ≤ i + 1 := Nat.le_add_left 1 i
  have a3 : y * 64 + b % 64 < 64 ^ (i + 1) := pow64_step hy
  have hp : 64 ^ i ≤ 262144 := pow64_le hi4
  have e3 : fwrap .i64 ((i : Int) + 1) = ((i + 1 : Nat) : Int) := by
   have : (i : Int) + 1 = ((i + 1 : Nat) : Int) := by push_cast; rfl
   rw [this, fwn _ (by omega)]
  have p6 : (2 : Nat) ^ 6 = 64 := rfl
  simp only [e1, e2, nthS_at hb, Option.bind_some, shrC_nat, p6, b63, if_true]
  by_cases h : b / 64 = 2
  ·have e4 : decide (((b / 64 : Nat) : Int) = 2) = true := by simp; omega
   have ih := next_l k s hs hl at' n q hn hat d m (i + 1) (y * 64 + b % 64) a1 a2 a3
   rw [e4, fwn _ (by omega : b % 64 ≤ 9223372036854775807), or_add _ _ (by omega) (by omega), e3, ih, hb, show at' + (i + 1) = at' + i + 1 from by omega, hr]
   simp [moreN, h]
  ·have e4 : decide (((b / 64 : Nat) : Int) = 2) = false := by simp; omega
   rw [e4, hb]
   simp [moreN, h, fitN]
end Go.Proofs.Ytokcjgjgojlhbaa.Am
set_option maxRecDepth 100000
set_option linter.unusedVariables false
namespace Go.Proofs.Ytokcjgjgojlhbaa.Am
noncomputable section
open Go
def X18 : Fx Bool := ⟨Try.prog, cx, Try.f18, fun r => .bool r, 0, fun _ => H0, cxTi, cxOrd⟩
def g18p0 : Pt := nav [0] (bodyAt Try.f18)
def g18p1 : Pt := nav [0, 0, 0, 0] g18p0
def g18p2 : Pt := nav [0, 0, 0, 0] g18p1
def g18p3 : Pt := nav [0, 0, 0] g18p2
def g18p4 : Pt := nav [0, 0] g18p3
def g18p5 : Pt := nav [1, 0, 0, 0] g18p4
def g18p7 : Pt := nav [0, 0, 0, 0] g18p5
def g18p9 : Pt := nav [0, 0] g18p7
def g18_l1 (k : Nat)  (a0 : (List Nat)) (n : Nat) : Int → Option Bool :=
 Nat.rec (motive := fun _ => Int → Option Bool) (fun _ => none) (fun _ ih => fun (y1_0 : Int) => if (decide (y1_0 < (a0.length : Int))) then ((g31 k a0 y1_0).bind fun x0_2 => if (decide (x0_2.1 < 0)) then (some false) else (ih (fwrap .i64 (y1_0 + x0_2.2)))) else (some true)) n
theorem g18_l1_s (k : Nat)  (a0 : (List Nat)) (n : Nat) (y1_0 : Int) : g18_l1 k a0 (n + 1) y1_0 = (if (decide (y1_0 < (a0.length : Int))) then ((g31 k a0 y1_0).bind fun x0_2 => if (decide (x0_2.1 < 0)) then (some false) else ((g18_l1 k a0 n) (fwrap .i64 (y1_0 + x0_2.2)))) else (some true)) := rfl
theorem g18_l1_ok (k : Nat)  (a0 : (List Nat))  : ∀ (n : Nat) (y1_0 : Int), Ok X18 g18p2 [(0, .str a0), (3, .int .i64 y1_0)] (mkH []) (g18_l1 k a0 n y1_0)
 | 0, _ => ok_none
 | n + 1, y1_0 => by
  have ih := g18_l1_ok k a0 n
  rw [g18_l1_s]
  refine ok_ent (p' := nav [0] g18p2) (by kernel_rfl) ?_
  let E1 : Env := [(9, .bool (decide (y1_0 < (a0.length : Int)))), (8, .int .i64 (a0.length : Int)), (7, .str a0), (6, .int .i64 y1_0), (0, .str a0), (3, .int .i64 y1_0)]
  refine ok_run 8 (p' := g18p4) (env' := E1) (H' := (mkH [])) (by kernel_rfl) ?_
  refine ok_split 9 (b := decide (y1_0 < (a0.length : Int))) (by kernel_rfl) (fun hb => ?_) (fun hb => ?_)
  ·refine ok_run 7 (p' := (atN 2 (ctl1 g18p5))) (env' := ((12, .int .i64 y1_0) :: (11, .str a0) :: (9, .bool true) :: E1)) (H' := (mkH [])) (by kernel_rfl) ?_
   refine ok_call (fun (x0_2 : (Int × Int)) => .tuple [.int .i64 x0_2.1, .int .i64 x0_2.2]) (atN 3 (ctl1 g18p5)) (fun x0_2 => ((13, .tuple [.int .i64 x0_2.1, .int .i64 x0_2.2]) :: (12, .int .i64 y1_0) :: (11, .str a0) :: (9, .bool true) :: E1)) (fi := 31) (args := [.str a0, .int .i64 y1_0]) (by kernel_rfl) (by kernel_rfl) (fun _ => by kernel_rfl) (fun r h => g31_ok k a0 y1_0 r h) (fun _ => by kernel_rfl) (fun x0_2 hx0_2 => ?_)
   let E2 : Env := ((5, .int .i64 x0_2.2) :: (4, .int .i64 x0_2.1) :: (15, .int .i64 x0_2.2) :: (14, .int .i64 x0_2.1) :: (10, .tuple [.int .i64 x0_2.1, .int .i64 x0_2.2]) :: (13, .tuple [.int .i64 x0_2.1, .int .i64 x0_2.2]) :: (12, .int .i64 y1_0) :: (11, .str a0) :: (9, .bool true) :: E1)
   refine ok_run 8 (p' := g18p7) (env' := E2) (H' := (mkH [])) (by kernel_rfl) ?_
   refine ok_keep [0, 3, 4, 5] (env' := [(0, .str a0), (3, .int .i64 y1_0), (4, .int .i64 x0_2.1), (5, .int .i64 x0_2.2)]) (by kernel_rfl) ?_
   let E3 : Env := [(17, .bool (decide (x0_2.1 < 0))), (16, .int .i64 x0_2.1), (0, .str a0), (3, .int .i64 y1_0), (4, .int .i64 x0_2.1), (5, .int .i64 x0_2.2)]
   refine ok_run 4 (p' := g18p9) (env' := E3) (H' := (mkH [])) (by kernel_rfl) ?_
   refine ok_split 17 (b := decide (x0_2.1 < 0)) (by kernel_rfl) (fun hb => ?_) (fun hb => ?_)
   ·refine ok_run 6 (p' := .fin) (env' := ((2, .bool false) :: (17, .bool true) :: E3)) (H' := (mkH [])) (by kernel_rfl) ?_
    exact ok_ret (r := false) (xs := [.bool false]) (v := .bool false) (by kernel_rfl) (by kernel_rfl) (by kernel_rfl) (.pures (by kernel_rfl)) (by kernel_rfl)
   ·let E4 : Env := ((3, .int .i64 (fwrap .i64 (y1_0 + x0_2.2))) :: (20, .int .i64 (fwrap .i64 (y1_0 + x0_2.2))) :: (19, .int .i64 x0_2.2) :: (18, .int .i64 y1_0) :: (17, .bool false) :: E3)
    refine ok_run 8 (p' := g18p2) (env' := E4) (H' := (mkH [])) (by kernel_rfl) ?_
    refine ok_keep [0, 3] (env' := [(0, .str a0), (3, .int .i64 (fwrap .i64 (y1_0 + x0_2.2)))]) (by kernel_rfl) ?_
    exact ih (fwrap .i64 (y1_0 + x0_2.2))
  ·refine ok_run 7 (p' := .fin) (env' := ((2, .bool true) :: (9, .bool false) :: E1)) (H' := (mkH [])) (by kernel_rfl) ?_
   exact ok_ret (r := true) (xs := [.bool true]) (v := .bool true) (by kernel_rfl) (by kernel_rfl) (by kernel_rfl) (.pures (by kernel_rfl)) (by kernel_rfl)
def g18 (k : Nat) (a0 : (List Nat)) : Option Bool :=
 g18_l1 k a0 k 0
theorem g18_ok (k : Nat) (a0 : (List Nat)) (r : Bool) (h : g18 k a0 = some r) : PureOk Try.prog 18 [.str a0] (.bool r) := by
 refine pure_of X18 (fun _ => rfl) Try.func18 (by decide +kernel) (by kernel_rfl) (t := g18 k a0) ?_ h
 unfold g18
 refine ok_env (env' := [(0, .str a0)]) (by kernel_rfl) ?_
 refine ok_run 11 (p' := g18p2) (env' := [(3, .int .i64 0), (2, .bool false), (0, .str a0)]) (H' := (mkH [])) (by kernel_rfl) ?_
 refine ok_keep [0, 3] (env' := [(0, .str a0), (3, .int .i64 0)]) (by kernel_rfl) ?_
 exact (g18_l1_ok k a0 k) 0
end
end Go.Proofs.Ytokcjgjgojlhbaa.Am
set_option maxRecDepth 100000
set_option linter.unusedVariables false
set_option linter.unusedSimpArgs false
namespace Go.Proofs.Ytokcjgjgojlhbaa.Am
open Go
theorem lead_le (c : Nat) : (leadN c).1 ≤ 4 := by
 unfold leadN; repeat' split
 all_goals simp
theorem lead_lt {c : Nat} (h : 2 ≤ (leadN c).1) : (leadN c).2 < 64 ^ 1 := by
 unfold leadN at *
 split at h
 ·simp at h
 ·rename_i h1
  rw [if_neg h1]
  repeat' split
  all_goals (simp only []; omega)
theorem next_at {k : Nat} (hk : 6 ≤ k) {s : List Nat} (hs : ∀ b ∈ s, b < 256) (hl : s.length ≤ 140737488351232) (i : Nat) : g31 k s (i : Int) = some (dec (s.drop i)) := by
 unfold g31
 have e0 : decide ((i : Int) < 0) = false := decide_eq_false (by omega)
 by_cases hi : i < s.length
 ·have e1 : decide ((s.length : Int) ≤ (i : Int)) = false := by simp; omega
  obtain ⟨c, r, hc, hr, hm⟩ := drop_cons hi
  have hc' := hs c hm
  have hrl : r.length + i + 1 = s.length := by rw [← hr, List.length_drop]; omega
  have e2 : fwrap .i64 ((s.length : Int) - (i : Int)) = ((r.length + 1 : Nat) : Int) := by
   have : (s.length : Int) - (i : Int) = ((r.length + 1 : Nat) : Int) := by omega
   rw [this, fwn _ (by omega)]
  simp only [e0, e1, nthS_at hc, lead_at hc', Option.bind_some, jn, e2, hc, dec]
  have l4 := lead_le c
  by_cases h0 : (leadN c).1 = 0
  ·simp [h0]
  ·have e3 : decide ((((leadN c).1 : Nat) : Int) = 0) = false := by simp; omega
   rw [if_neg h0, e3]
   by_cases h1 : r.length + 1 < (leadN c).1
   ·have e4 : decide (((r.length + 1 : Nat) : Int) < (((leadN c).1 : Nat) : Int)) = true := by simp only [decide_eq_true_eq]; omega
    rw [e4, moreN_none _ _ _ (by omega)]
    rfl
   ·have e4 : decide (((r.length + 1 : Nat) : Int) < (((leadN c).1 : Nat) : Int)) = false := by simp only [decide_eq_false_iff_not]; omega
    rw [e4]
    simp only [if_false, Bool.false_eq_true]
    by_cases h2 : (leadN c).1 = 1
    ·have w := next_l k s hs hl i 1 (leadN c).2 (by decide) (by omega) 0 (k - 1) 1
     obtain ⟨k', rfl⟩ : ∃ k', k = k' + 1 := ⟨k - 1, by omega⟩
     rw [h2, g31_l5_s]
     have e5 : decide ((1 : Int) < ((1 : Nat) : Int)) = false := by decide
     simp only [e5, least_at (by decide : 1 ≤ 4), cp_at, Option.bind_some, jn, moreN, fitN]
     have e6 : decide ((((leadN c).2 : Nat) : Int) < ((leastN 1 : Nat) : Int)) = false := by simp [leastN]
     rw [e6]
     have e7 : leastN 1 ≤ (leadN c).2 := by simp [leastN]
     cases hcp : cpN (leadN c).2 <;> simp [e7, moreN, hcp]
    ·have w := next_l k s hs hl i (leadN c).1 (leadN c).2 l4 (by omega) ((leadN c).1 - 1) (k - (leadN c).1) 1 (leadN c).2 (by omega) (by decide) (lead_lt (by omega))
     rw [show (leadN c).1 - 1 + 1 + (k - (leadN c).1) = k from by omega, hr] at w
     exact w
 ·have e1 : decide ((s.length : Int) ≤ (i : Int)) = true := by simp; omega
  rw [e0, e1, List.drop_eq_nil_of_le (by omega)]
  rfl
theorem dec_size {s : List Nat} (h : s ≠ []) : ∃ n : Nat, (dec s).2 = (n : Int) ∧ 1 ≤ n ∧ n ≤ 4 ∧ n ≤ s.length ∧ ((dec s).1 < 0 → n = 1) := by
 cases s with
 | nil => exact absurd rfl h
 | cons c r =>
  have hd : dec (c :: r) = if (leadN c).1 = 0 then (-1, 1) else fitN (leadN c).1 (moreN ((leadN c).1 - 1) (leadN c).2 r) := rfl
  rw [hd]
  by_cases h0 : (leadN c).1 = 0
  ·rw [if_pos h0]
   exact ⟨1, rfl, by decide, by decide, by simp, fun _ => rfl⟩
  ·rw [if_neg h0]
   cases hm : moreN ((leadN c).1 - 1) (leadN c).2 r with
   | none => exact ⟨1, rfl, by decide, by decide, by simp, fun _ => rfl⟩
   | some y =>
    unfold fitN
    simp only []
    split
    ·have := lead_le c
     refine ⟨(leadN c).1, rfl, by omega, this, ?_, ?_⟩
     ·rcases Nat.lt_or_ge r.length ((leadN c).1 - 1) with hlt | hge
      ·rw [moreN_none _ _ _ hlt] at hm; cases hm
      ·simp; omega
     ·intro hneg
      simp at hneg
      omega
    ·exact ⟨1, rfl, by decide, by decide, by simp, fun _ => rfl⟩
def vld : Nat → List Nat → Bool
 | _, [] => true
 | 0, _ => false
 | n + 1, s => if (dec s).1 < 0 then false else vld n (s.drop (dec s).2.toNat)
def cpc : Nat → List Nat → Nat
 | _, [] => 0
 | 0, _ => 0
 | n + 1, s => cpc n (s.drop (dec s).2.toNat) + 1
theorem drop_lt {s : List Nat} {i : Nat} (h : i < s.length) : s.drop i ≠ [] := by
 intro e
 have := congrArg List.length e
 simp at this
 omega
theorem valid_l18 {k : Nat} (hk : 6 ≤ k) {s : List Nat} (hs : ∀ b ∈ s, b < 256) (hl : s.length ≤ 140737488351232) : ∀ (d m i : Nat), s.length ≤ i + d → i ≤ s.length → g18_l1 k s (d + 1 + m) (i : Int) = some (vld d (s.drop i)) := by
 intro d
 induction d with
 | zero =>
  intro m i h1 h2
  have e : s.drop i = [] := List.drop_eq_nil_of_le (by omega)
  rw [show 0 + 1 + m = m + 1 from by omega, g18_l1_s, e, decide_eq_false (show ¬ (i : Int) < (s.length : Int) by omega)]
  rfl
 | succ d ih =>
  intro m i h1 h2
  rw [show d + 1 + 1 + m = (d + 1 + m) + 1 from by omega, g18_l1_s]
  by_cases hi : i < s.length
  ·rw [decide_eq_true (show (i : Int) < (s.length : Int) by omega)]
   obtain ⟨c, r, hc, -, -⟩ := drop_cons hi
   obtain ⟨n, n1, n2, n3, n4, n5⟩ := dec_size (drop_lt hi)
   rw [List.length_drop] at n4
   have b1 : s.length ≤ i + n + d := by clear n1; omega
   have b2 : i + n ≤ s.length := by clear n1; omega
   simp only [next_at hk hs hl, Option.bind_some, if_true]
   have hv : vld (d + 1) (s.drop i) = if (dec (s.drop i)).1 < 0 then false else vld d ((s.drop i).drop (dec (s.drop i)).2.toNat) := by
    rw [hc]; rfl
   rw [hv]
   by_cases hneg : (dec (s.drop i)).1 < 0
   ·rw [decide_eq_true hneg, if_pos hneg]
    rfl
   ·rw [decide_eq_false hneg, if_neg hneg, n1, List.drop_drop]
    have e3 : fwrap .i64 ((i : Int) + (n : Int)) = ((i + n : Nat) : Int) := by
     have : (i : Int) + (n : Int) = ((i + n : Nat) : Int) := by omega
     rw [this, fwn _ (by omega)]
    rw [e3]
    exact ih m (i + n) b1 b2
  ·have e : s.drop i = [] := List.drop_eq_nil_of_le (by omega)
   rw [e, decide_eq_false (show ¬ (i : Int) < (s.length : Int) by omega)]
   rfl
theorem valid_at18 {k : Nat} {s : List Nat} (hk : s.length + 6 ≤ k) (hs : ∀ b ∈ s, b < 256) (hl : s.length ≤ 140737488351232) : g18 k s = some (vld s.length s) := by
 have h := valid_l18 (k := k) (by omega) hs hl s.length (k - (s.length + 1)) 0 (by omega) (by omega)
 rw [show s.length + 1 + (k - (s.length + 1)) = k from by omega] at h
 exact h
end Go.Proofs.Ytokcjgjgojlhbaa.Am
set_option maxRecDepth 100000
set_option linter.unusedVariables false
namespace Go.Proofs.Ytokcjgjgojlhbaa.Am
noncomputable section
open Go
def X67 : Fx (List Nat) := ⟨Try.prog, cx, Try.f67, fun r => .str r, 0, fun _ => H0, cxTi, cxOrd⟩
def g67p0 : Pt := nav [0] (bodyAt Try.f67)
def g67p1 : Pt := nav [0, 0, 0, 0] g67p0
def g67p2 : Pt := nav [0, 0] g67p1
def g67p4 : Pt := nav [2, 0, 0] g67p2
def g67p6 : Pt := nav [0, 0, 0, 0, 0] g67p4
def g67p7 : Pt := nav [0, 0, 0] g67p6
def g67p8 : Pt := nav [0, 0] g67p7
def g67p10 : Pt := nav [2, 0, 0, 0] g67p8
def g67p11 : Pt := nav [0, 0] g67p10
def g67p12 : Pt := nav [1, 0] g67p11
def g67p13 : Pt := nav [2, 0, 0] g67p11
def g67p14 : Pt := nav [0, 0, 0, 0] g67p13
def g67p15 : Pt := nav [0, 0, 0, 0] g67p14
def g67p16 : Pt := nav [0, 0, 0] g67p15
def g67p17 : Pt := nav [0, 0] g67p16
def g67p18 : Pt := nav [1, 0, 0, 0, 0] g67p17
def g67p19 : Pt := nav [2, 0, 0] g67p17
def g67p20 : Pt := nav [0, 0] g67p18
def g67p21 : Pt := nav [0, 0, 0] g67p19
def g67_l9 (k : Nat)  (z8 : Int × Bool) (n : Nat) : Int → Int → (List Int) → Option (List Nat) :=
 Nat.rec (motive := fun _ => Int → Int → (List Int) → Option (List Nat)) (fun _ _ _ => none) (fun _ ih => fun (y9_0 : Int) (y9_1 : Int) (y9_2 : (List Int)) => if (decide (0 < y9_1)) then ((idxO y9_2 y9_1).bind fun x4_6 => (setO y9_2 x4_6 (orI .u8 (andI .u8 (fwrap .u8 y9_0) 63) 128)).bind fun x4_7 => ih (shrC y9_0 6) (fwrap .i64 (y9_1 - 1)) x4_7) else ((shlS .u8 255 (fwrap .i64 (8 - z8.1))).bind fun x5_5 => (idxO y9_2 0).bind fun x5_7 => (setO y9_2 x5_7 (orI .u8 (fwrap .u8 y9_0) x5_5)).bind fun x5_8 => (toS x5_8).bind fun x6_1 => some x6_1)) n
theorem g67_l9_s (k : Nat)  (z8 : Int × Bool) (n : Nat) (y9_0 : Int) (y9_1 : Int) (y9_2 : (List Int)) : g67_l9 k z8 (n + 1) y9_0 y9_1 y9_2 = (if (decide (0 < y9_1)) then ((idxO y9_2 y9_1).bind fun x4_6 => (setO y9_2 x4_6 (orI .u8 (andI .u8 (fwrap .u8 y9_0) 63) 128)).bind fun x4_7 => (g67_l9 k z8 n) (shrC y9_0 6) (fwrap .i64 (y9_1 - 1)) x4_7) else ((shlS .u8 255 (fwrap .i64 (8 - z8.1))).bind fun x5_5 => (idxO y9_2 0).bind fun x5_7 => (setO y9_2 x5_7 (orI .u8 (fwrap .u8 y9_0) x5_5)).bind fun x5_8 => (toS x5_8).bind fun x6_1 => some x6_1)) := rfl
theorem g67_l9_ok (k : Nat)  (z8 : Int × Bool)  : ∀ (n : Nat) (y9_0 : Int) (y9_1 : Int) (y9_2 : (List Int)), Ok X67 g67p15 [(0, .int .i64 y9_0), (3, .int .i64 z8.1), (4, .own 0 (y9_2).length 1), (5, .int .i64 y9_1)] (mkH [⟨(y9_2).flatMap e5, (y9_2).length * 1, false⟩]) (g67_l9 k z8 n y9_0 y9_1 y9_2)
 | 0, _, _, _ => ok_none
 | n + 1, y9_0, y9_1, y9_2 => by
  have ih := g67_l9_ok k z8 n
  rw [g67_l9_s]
  refine ok_ent (p' := nav [0] g67p15) (by kernel_rfl) ?_
  let E8 : Env := [(31, .bool (decide (0 < y9_1))), (30, .int .i64 y9_1), (0, .int .i64 y9_0), (3, .int .i64 z8.1), (4, .own 0 (y9_2).length 1), (5, .int .i64 y9_1)]
  refine ok_run 6 (p' := g67p17) (env' := E8) (H' := (mkH [⟨(y9_2).flatMap e5, (y9_2).length * 1, false⟩])) (by kernel_rfl) ?_
  refine ok_split 31 (b := decide (0 < y9_1)) (by kernel_rfl) (fun hb => ?_) (fun hb => ?_)
  ·let E9 : Env := ((39, .int .u8 (orI .u8 (andI .u8 (fwrap .u8 y9_0) 63) 128)) :: (38, .int .u8 (andI .u8 (fwrap .u8 y9_0) 63)) :: (37, .int .u8 (fwrap .u8 y9_0)) :: (36, .int .i64 y9_0) :: (35, .int .i64 y9_1) :: (34, .own 0 (y9_2).length 1) :: (31, .bool true) :: E8)
   refine ok_run 12 (p' := (atN 6 (ctl1 g67p18))) (env' := E9) (H' := (mkH [⟨(y9_2).flatMap e5, (y9_2).length * 1, false⟩])) (by kernel_rfl) ?_
   refine ok_chk (fun (x4_6 : Nat) => (.ptr 0 ((y9_2).length * 1) (x4_6 * 1), (mkH [⟨(y9_2).flatMap e5, (y9_2).length * 1, false⟩]))) (atN 7 (ctl1 g67p18)) (fun x4_6 => ((40, .ptr 0 ((y9_2).length * 1) (x4_6 * 1)) :: E9)) (oidxH (sz := 1) (by kernel_rfl)) (fun _ => by kernel_rfl) (fun x4_6 hx4_6 => ?_)
   refine ok_chk (fun (x4_7 : (List Int)) => (.top, (mkH [⟨(x4_7).flatMap e5, (x4_7).length * 1, false⟩]))) (atN 8 (ctl1 g67p18)) (fun x4_7 => ((40, .ptr 0 ((y9_2).length * 1) (x4_6 * 1)) :: E9)) (storeH (v := v5) (fun _ => rfl) (fun _ => rfl) [⟨(y9_2).flatMap e5, (y9_2).length * 1, false⟩] 0 (orI .u8 (andI .u8 (fwrap .u8 y9_0) 63) 128) rfl rfl (by kernel_rfl)) (fun _ => by kernel_rfl) (fun x4_7 hx4_7 => ?_)
   refine ok_env (env' := [(40, .ptr 0 ((y9_2).length * 1) (x4_6 * 1)), (39, .int .u8 (orI .u8 (andI .u8 (fwrap .u8 y9_0) 63) 128)), (38, .int .u8 (andI .u8 (fwrap .u8 y9_0) 63)), (37, .int .u8 (fwrap .u8 y9_0)), (36, .int .i64 y9_0), (35, .int .i64 y9_1), (34, .own 0 (x4_7).length 1), (31, .bool true), (31, .bool (decide (0 < y9_1))), (30, .int .i64 y9_1), (0, .int .i64 y9_0), (3, .int .i64 z8.1), (4, .own 0 (x4_7).length 1), (5, .int .i64 y9_1)]) (by rw [setO_len hx4_7]) ?_
   let E10 : Env := [(40, .ptr 0 ((y9_2).length * 1) (x4_6 * 1)), (39, .int .u8 (orI .u8 (andI .u8 (fwrap .u8 y9_0) 63) 128)), (38, .int .u8 (andI .u8 (fwrap .u8 y9_0) 63)), (37, .int .u8 (fwrap .u8 y9_0)), (36, .int .i64 y9_0), (35, .int .i64 y9_1), (34, .own 0 (x4_7).length 1), (31, .bool true), (31, .bool (decide (0 < y9_1))), (30, .int .i64 y9_1), (0, .int .i64 y9_0), (3, .int .i64 z8.1), (4, .own 0 (x4_7).length 1), (5, .int .i64 y9_1)]
   refine ok_run 1 (p' := g67p20) (env' := E10) (H' := (mkH [⟨(x4_7).flatMap e5, (x4_7).length * 1, false⟩])) (by kernel_rfl) ?_
   refine ok_keep [0, 3, 4, 5] (env' := [(0, .int .i64 y9_0), (3, .int .i64 z8.1), (4, .own 0 (x4_7).length 1), (5, .int .i64 y9_1)]) (by kernel_rfl) ?_
   let E11 : Env := [(5, .int .i64 (fwrap .i64 (y9_1 - 1))), (33, .int .i64 (fwrap .i64 (y9_1 - 1))), (32, .int .i64 y9_1), (0, .int .i64 (shrC y9_0 6)), (42, .int .i64 (shrC y9_0 6)), (41, .int .i64 y9_0), (0, .int .i64 y9_0), (3, .int .i64 z8.1), (4, .own 0 (x4_7).length 1), (5, .int .i64 y9_1)]
   refine ok_run 10 (p' := g67p15) (env' := E11) (H' := (mkH [⟨(x4_7).flatMap e5, (x4_7).length * 1, false⟩])) (by kernel_rfl) ?_
   refine ok_keep [0, 3, 4, 5] (env' := [(0, .int .i64 (shrC y9_0 6)), (3, .int .i64 z8.1), (4, .own 0 (x4_7).length 1), (5, .int .i64 (fwrap .i64 (y9_1 - 1)))]) (by kernel_rfl) ?_
   exact ih (shrC y9_0 6) (fwrap .i64 (y9_1 - 1)) x4_7
  ·let E12 : Env := ((47, .int .i64 (fwrap .i64 (8 - z8.1))) :: (46, .int .i64 z8.1) :: (45, .int .u8 (fwrap .u8 y9_0)) :: (44, .int .i64 y9_0) :: (43, .own 0 (y9_2).length 1) :: (31, .bool false) :: E8)
   refine ok_run 9 (p' := (atN 5 (ctl1 g67p19))) (env' := E12) (H' := (mkH [⟨(y9_2).flatMap e5, (y9_2).length * 1, false⟩])) (by kernel_rfl) ?_
   refine ok_chk (fun (x5_5 : Int) => (.int .u8 x5_5, (mkH [⟨(y9_2).flatMap e5, (y9_2).length * 1, false⟩]))) (atN 6 (ctl1 g67p19)) (fun x5_5 => ((48, .int .u8 x5_5) :: E12)) (shlH (by kernel_rfl)) (fun _ => by kernel_rfl) (fun x5_5 hx5_5 => ?_)
   refine ok_run 1 (p' := (atN 7 (ctl1 g67p19))) (env' := ((49, .int .u8 (orI .u8 (fwrap .u8 y9_0) x5_5)) :: (48, .int .u8 x5_5) :: E12)) (H' := (mkH [⟨(y9_2).flatMap e5, (y9_2).length * 1, false⟩])) (by kernel_rfl) ?_
   refine ok_chk (fun (x5_7 : Nat) => (.ptr 0 ((y9_2).length * 1) (x5_7 * 1), (mkH [⟨(y9_2).flatMap e5, (y9_2).length * 1, false⟩]))) (atN 8 (ctl1 g67p19)) (fun x5_7 => ((50, .ptr 0 ((y9_2).length * 1) (x5_7 * 1)) :: (49, .int .u8 (orI .u8 (fwrap .u8 y9_0) x5_5)) :: (48, .int .u8 x5_5) :: E12)) (oidxH (sz := 1) (by kernel_rfl)) (fun _ => by kernel_rfl) (fun x5_7 hx5_7 => ?_)
   refine ok_chk (fun (x5_8 : (List Int)) => (.top, (mkH [⟨(x5_8).flatMap e5, (x5_8).length * 1, false⟩]))) (atN 9 (ctl1 g67p19)) (fun x5_8 => ((50, .ptr 0 ((y9_2).length * 1) (x5_7 * 1)) :: (49, .int .u8 (orI .u8 (fwrap .u8 y9_0) x5_5)) :: (48, .int .u8 x5_5) :: E12)) (storeH (v := v5) (fun _ => rfl) (fun _ => rfl) [⟨(y9_2).flatMap e5, (y9_2).length * 1, false⟩] 0 (orI .u8 (fwrap .u8 y9_0) x5_5) rfl rfl (by kernel_rfl)) (fun _ => by kernel_rfl) (fun x5_8 hx5_8 => ?_)
   refine ok_env (env' := [(50, .ptr 0 ((y9_2).length * 1) (x5_7 * 1)), (49, .int .u8 (orI .u8 (fwrap .u8 y9_0) x5_5)), (48, .int .u8 x5_5), (47, .int .i64 (fwrap .i64 (8 - z8.1))), (46, .int .i64 z8.1), (45, .int .u8 (fwrap .u8 y9_0)), (44, .int .i64 y9_0), (43, .own 0 (x5_8).length 1), (31, .bool false), (31, .bool (decide (0 < y9_1))), (30, .int .i64 y9_1), (0, .int .i64 y9_0), (3, .int .i64 z8.1), (4, .own 0 (x5_8).length 1), (5, .int .i64 y9_1)]) (by rw [setO_len hx5_8]) ?_
   let E13 : Env := [(50, .ptr 0 ((y9_2).length * 1) (x5_7 * 1)), (49, .int .u8 (orI .u8 (fwrap .u8 y9_0) x5_5)), (48, .int .u8 x5_5), (47, .int .i64 (fwrap .i64 (8 - z8.1))), (46, .int .i64 z8.1), (45, .int .u8 (fwrap .u8 y9_0)), (44, .int .i64 y9_0), (43, .own 0 (x5_8).length 1), (31, .bool false), (31, .bool (decide (0 < y9_1))), (30, .int .i64 y9_1), (0, .int .i64 y9_0), (3, .int .i64 z8.1), (4, .own 0 (x5_8).length 1), (5, .int .i64 y9_1)]
   refine ok_run 2 (p' := g67p21) (env' := E13) (H' := (mkH [⟨(x5_8).flatMap e5, (x5_8).length * 1, false⟩])) (by kernel_rfl) ?_
   refine ok_keep [4] (env' := [(4, .own 0 (x5_8).length 1)]) (by kernel_rfl) ?_
   refine ok_run 2 (p' := (atN 1 (ctl1 g67p21))) (env' := [(51, .own 0 (x5_8).length 1), (4, .own 0 (x5_8).length 1)]) (H' := (mkH [⟨(x5_8).flatMap e5, (x5_8).length * 1, false⟩])) (by kernel_rfl) ?_
   refine ok_chk (fun (x6_1 : (List Nat)) => (.str x6_1, (mkH [⟨(x5_8).flatMap e5, (x5_8).length * 1, false⟩]))) (atN 2 (ctl1 g67p21)) (fun x6_1 => [(52, .str x6_1), (51, .own 0 (x5_8).length 1), (4, .own 0 (x5_8).length 1)]) (toSO (fun _ => rfl) [⟨(x5_8).flatMap e5, (x5_8).length * 1, false⟩] 0 (x5_8.length * 1) rfl rfl (Nat.le_refl _) (by kernel_rfl)) (fun _ => by kernel_rfl) (fun x6_1 hx6_1 => ?_)
   refine ok_run 3 (p' := .fin) (env' := [(2, .str x6_1), (52, .str x6_1), (51, .own 0 (x5_8).length 1), (4, .own 0 (x5_8).length 1)]) (H' := (mkH [⟨(x5_8).flatMap e5, (x5_8).length * 1, false⟩])) (by kernel_rfl) ?_
   exact ok_ret (r := x6_1) (xs := [.str x6_1]) (v := .str x6_1) (by kernel_rfl) (by kernel_rfl) (by kernel_rfl) (.pures (by kernel_rfl)) (by kernel_rfl)
def g67_l7 (k : Nat)  (a0 : Int) (n : Nat) : Int → Option (List Nat) :=
 Nat.rec (motive := fun _ => Int → Option (List Nat)) (fun _ => none) (fun _ ih => fun (y7_0 : Int) => jn (fun (z8 : Int × Bool) => if z8.2 then (ih (fwrap .i64 (z8.1 + 1))) else (if (decide (z8.1 = 1)) then ((toS ([fwrap .u8 a0] : List Int)).bind fun x2_3 => some x2_3) else ((mkS (0 : Int) 1 z8.1).bind fun x3_1 => g67_l9 k z8 k a0 (fwrap .i64 (z8.1 - 1)) x3_1))) (fun j8 => if (decide (y7_0 < 4)) then ((g48 k (fwrap .i64 (y7_0 + 1))).bind fun x1_6 => j8 (y7_0, decide (x1_6 ≤ a0))) else (j8 (y7_0, false)))) n
theorem g67_l7_s (k : Nat)  (a0 : Int) (n : Nat) (y7_0 : Int) : g67_l7 k a0 (n + 1) y7_0 = (jn (fun (z8 : Int × Bool) => if z8.2 then ((g67_l7 k a0 n) (fwrap .i64 (z8.1 + 1))) else (if (decide (z8.1 = 1)) then ((toS ([fwrap .u8 a0] : List Int)).bind fun x2_3 => some x2_3) else ((mkS (0 : Int) 1 z8.1).bind fun x3_1 => g67_l9 k z8 k a0 (fwrap .i64 (z8.1 - 1)) x3_1))) (fun j8 => if (decide (y7_0 < 4)) then ((g48 k (fwrap .i64 (y7_0 + 1))).bind fun x1_6 => j8 (y7_0, decide (x1_6 ≤ a0))) else (j8 (y7_0, false)))) := rfl
theorem g67_l7_ok (k : Nat)  (a0 : Int)  : ∀ (n : Nat) (y7_0 : Int), Ok X67 g67p6 [(0, .int .i64 a0), (3, .int .i64 y7_0)] (mkH []) (g67_l7 k a0 n y7_0)
 | 0, _ => ok_none
 | n + 1, y7_0 => by
  have ih := g67_l7_ok k a0 n
  rw [g67_l7_s]
  refine ok_ent (p' := nav [0] g67p6) (by kernel_rfl) ?_
  let E2 : Env := [(11, .bool (decide (y7_0 < 4))), (10, .bool (decide (y7_0 < 4))), (9, .int .i64 y7_0), (0, .int .i64 a0), (3, .int .i64 y7_0)]
  refine ok_run 6 (p' := (atN 3 (ctl1 g67p7))) (env' := E2) (H' := (mkH [])) (by kernel_rfl) ?_
  refine ok_jn (f := fun (z8 : Int × Bool) => if z8.2 then ((g67_l7 k a0 n) (fwrap .i64 (z8.1 + 1))) else (if (decide (z8.1 = 1)) then ((toS ([fwrap .u8 a0] : List Int)).bind fun x2_3 => some x2_3) else ((mkS (0 : Int) 1 z8.1).bind fun x3_1 => g67_l9 k z8 k a0 (fwrap .i64 (z8.1 - 1)) x3_1))) g67p8 (fun (z8 : Int × Bool) => [(0, .int .i64 a0), (3, .int .i64 z8.1), (17, .bool z8.2)]) (fun (z8 : Int × Bool) => (mkH [])) (fun z8 => ?_) (fun j8 hj8 => ?_)
  ·refine ok_split 17 (b := z8.2) (by kernel_rfl) (fun hb => ?_) (fun hb => ?_)
   ·let E3 : Env := [(3, .int .i64 (fwrap .i64 (z8.1 + 1))), (19, .int .i64 (fwrap .i64 (z8.1 + 1))), (18, .int .i64 z8.1), (17, .bool true), (0, .int .i64 a0), (3, .int .i64 z8.1), (17, .bool z8.2)]
    refine ok_run 8 (p' := g67p6) (env' := E3) (H' := (mkH [])) (by kernel_rfl) ?_
    refine ok_keep [0, 3] (env' := [(0, .int .i64 a0), (3, .int .i64 (fwrap .i64 (z8.1 + 1)))]) (by kernel_rfl) ?_
    exact ih (fwrap .i64 (z8.1 + 1))
   ·let E4 : Env := [(21, .bool (decide (z8.1 = 1))), (20, .int .i64 z8.1), (17, .bool false), (0, .int .i64 a0), (3, .int .i64 z8.1), (17, .bool z8.2)]
    refine ok_run 8 (p' := g67p11) (env' := E4) (H' := (mkH [])) (by kernel_rfl) ?_
    refine ok_split 21 (b := decide (z8.1 = 1)) (by kernel_rfl) (fun hb => ?_) (fun hb => ?_)
    ·refine ok_run 6 (p' := (atN 3 (ctl1 g67p12))) (env' := ((24, .slice 0 1 0 1 1) :: (23, .int .u8 (fwrap .u8 a0)) :: (22, .int .i64 a0) :: (21, .bool true) :: E4)) (H' := (mkH [⟨[.int .u8 (fwrap .u8 a0)], 0, false⟩])) (by kernel_rfl) ?_
     refine ok_chk (fun (x2_3 : (List Nat)) => (.str x2_3, (mkH [⟨[.int .u8 (fwrap .u8 a0)], 0, false⟩]))) (atN 4 (ctl1 g67p12)) (fun x2_3 => ((25, .str x2_3) :: (24, .slice 0 1 0 1 1) :: (23, .int .u8 (fwrap .u8 a0)) :: (22, .int .i64 a0) :: (21, .bool true) :: E4)) (toSE [fwrap .u8 a0] (by kernel_rfl)) (fun _ => by kernel_rfl) (fun x2_3 hx2_3 => ?_)
     let E5 : Env := ((2, .str x2_3) :: (25, .str x2_3) :: (24, .slice 0 1 0 1 1) :: (23, .int .u8 (fwrap .u8 a0)) :: (22, .int .i64 a0) :: (21, .bool true) :: E4)
     refine ok_run 3 (p' := .fin) (env' := E5) (H' := (mkH [⟨[.int .u8 (fwrap .u8 a0)], 0, false⟩])) (by kernel_rfl) ?_
     exact ok_ret (r := x2_3) (xs := [.str x2_3]) (v := .str x2_3) (by kernel_rfl) (by kernel_rfl) (by kernel_rfl) (.pures (by kernel_rfl)) (by kernel_rfl)
    ·refine ok_run 5 (p' := (atN 1 (ctl1 g67p13))) (env' := ((26, .int .i64 z8.1) :: (21, .bool false) :: E4)) (H' := (mkH [])) (by kernel_rfl) ?_
     refine ok_chk (fun (x3_1 : (List Int)) => (.slice 0 ((x3_1).flatMap e5).length 0 (x3_1).length 1, (mkH [⟨(x3_1).flatMap e5, 0, false⟩]))) (atN 2 (ctl1 g67p13)) (fun x3_1 => ((27, .slice 0 ((x3_1).flatMap e5).length 0 (x3_1).length 1) :: (26, .int .i64 z8.1) :: (21, .bool false) :: E4)) (makeH (sz := 1) e5_len rfl (0 : Int) [] 1 rfl (by kernel_rfl)) (fun _ => by kernel_rfl) (fun x3_1 hx3_1 => ?_)
     refine ok_sown 27 0 ((x3_1).flatMap e5).length (x3_1).length 1 (by kernel_rfl) (flatMap_len e5_len _) ?_
     refine ok_env (env' := [(27, .own 0 (x3_1).length 1), (27, .slice 0 ((x3_1).flatMap e5).length 0 (x3_1).length 1), (26, .int .i64 z8.1), (21, .bool false), (21, .bool (decide (z8.1 = 1))), (20, .int .i64 z8.1), (17, .bool false), (0, .int .i64 a0), (3, .int .i64 z8.1), (17, .bool z8.2)]) (by kernel_rfl) ?_
     refine ok_minv [⟨(x3_1).flatMap e5, 0, false⟩] 0 ((x3_1).flatMap e5) 0 ((x3_1).length * 1) rfl rfl (Nat.zero_le _) ?_
     refine ok_heap (H' := (mkH [⟨(x3_1).flatMap e5, (x3_1).length * 1, false⟩])) (by kernel_rfl) ?_
     let E6 : Env := ((4, .own 0 (x3_1).length 1) :: (27, .own 0 (x3_1).length 1) :: (27, .slice 0 ((x3_1).flatMap e5).length 0 (x3_1).length 1) :: (26, .int .i64 z8.1) :: (21, .bool false) :: E4)
     refine ok_run 4 (p' := g67p14) (env' := E6) (H' := (mkH [⟨(x3_1).flatMap e5, (x3_1).length * 1, false⟩])) (by kernel_rfl) ?_
     refine ok_keep [0, 3, 4] (env' := [(0, .int .i64 a0), (3, .int .i64 z8.1), (4, .own 0 (x3_1).length 1)]) (by kernel_rfl) ?_
     let E7 : Env := [(5, .int .i64 (fwrap .i64 (z8.1 - 1))), (29, .int .i64 (fwrap .i64 (z8.1 - 1))), (28, .int .i64 z8.1), (0, .int .i64 a0), (3, .int .i64 z8.1), (4, .own 0 (x3_1).length 1)]
     refine ok_run 7 (p' := g67p15) (env' := E7) (H' := (mkH [⟨(x3_1).flatMap e5, (x3_1).length * 1, false⟩])) (by kernel_rfl) ?_
     refine ok_keep [0, 3, 4, 5] (env' := [(0, .int .i64 a0), (3, .int .i64 z8.1), (4, .own 0 (x3_1).length 1), (5, .int .i64 (fwrap .i64 (z8.1 - 1)))]) (by kernel_rfl) ?_
     exact (g67_l9_ok k z8 k) a0 (fwrap .i64 (z8.1 - 1)) x3_1
  ·refine ok_split 11 (b := decide (y7_0 < 4)) (by kernel_rfl) (fun hb => ?_) (fun hb => ?_)
   ·refine ok_run 3 (p' := (atN 6 (ctl1 g67p7))) (env' := ((14, .int .i64 (fwrap .i64 (y7_0 + 1))) :: (13, .int .i64 y7_0) :: (12, .int .i64 a0) :: (11, .bool true) :: E2)) (H' := (mkH [])) (by kernel_rfl) ?_
    refine ok_call (fun (x1_6 : Int) => .int .i64 x1_6) (atN 7 (ctl1 g67p7)) (fun x1_6 => ((15, .int .i64 x1_6) :: (14, .int .i64 (fwrap .i64 (y7_0 + 1))) :: (13, .int .i64 y7_0) :: (12, .int .i64 a0) :: (11, .bool true) :: E2)) (fi := 48) (args := [.int .i64 (fwrap .i64 (y7_0 + 1))]) (by kernel_rfl) (by kernel_rfl) (fun _ => by kernel_rfl) (fun r h => g48_ok k (fwrap .i64 (y7_0 + 1)) r h) (fun _ => by kernel_rfl) (fun x1_6 hx1_6 => ?_)
    let E14 : Env := ((17, .bool (decide (x1_6 ≤ a0))) :: (16, .bool (decide (x1_6 ≤ a0))) :: (15, .int .i64 x1_6) :: (14, .int .i64 (fwrap .i64 (y7_0 + 1))) :: (13, .int .i64 y7_0) :: (12, .int .i64 a0) :: (11, .bool true) :: E2)
    refine ok_run 3 (p' := g67p8) (env' := E14) (H' := (mkH [])) (by kernel_rfl) ?_
    refine ok_keep [0, 3, 17] (env' := [(0, .int .i64 a0), (3, .int .i64 y7_0), (17, .bool (decide (x1_6 ≤ a0)))]) (by kernel_rfl) ?_
    exact hj8 (y7_0, decide (x1_6 ≤ a0))
   ·let E15 : Env := ((17, .bool false) :: (16, .tuple []) :: (15, .tuple []) :: (14, .tuple []) :: (13, .tuple []) :: (12, .tuple []) :: (11, .bool false) :: E2)
    refine ok_run 7 (p' := g67p8) (env' := E15) (H' := (mkH [])) (by kernel_rfl) ?_
    refine ok_keep [0, 3, 17] (env' := [(0, .int .i64 a0), (3, .int .i64 y7_0), (17, .bool false)]) (by kernel_rfl) ?_
    exact hj8 (y7_0, false)
def g67 (k : Nat) (a0 : Int) : Option (List Nat) :=
 (g49 k a0).bind fun x0_1 => if (!x0_1) then (some ([] : List Nat)) else (g67_l7 k a0 k 1)
theorem g67_ok (k : Nat) (a0 : Int) (r : (List Nat)) (h : g67 k a0 = some r) : PureOk Try.prog 67 [.int .i64 a0] (.str r) := by
 refine pure_of X67 (fun _ => rfl) Try.func67 (by decide +kernel) (by kernel_rfl) (t := g67 k a0) ?_ h
 unfold g67
 refine ok_env (env' := [(0, .int .i64 a0)]) (by kernel_rfl) ?_
 refine ok_run 8 (p' := (atN 1 (ctl1 g67p1))) (env' := [(6, .int .i64 a0), (2, .str []), (0, .int .i64 a0)]) (H' := (mkH [])) (by kernel_rfl) ?_
 refine ok_call (fun (x0_1 : Bool) => .bool x0_1) (atN 2 (ctl1 g67p1)) (fun x0_1 => [(7, .bool x0_1), (6, .int .i64 a0), (2, .str []), (0, .int .i64 a0)]) (fi := 49) (args := [.int .i64 a0]) (by kernel_rfl) (by kernel_rfl) (fun _ => by kernel_rfl) (fun r h => g49_ok k a0 r h) (fun _ => by kernel_rfl) (fun x0_1 hx0_1 => ?_)
 let E1 : Env := [(8, .bool (!x0_1)), (7, .bool x0_1), (6, .int .i64 a0), (2, .str []), (0, .int .i64 a0)]
 refine ok_run 2 (p' := g67p2) (env' := E1) (H' := (mkH [])) (by kernel_rfl) ?_
 refine ok_split 8 (b := !x0_1) (by kernel_rfl) (fun hb => ?_) (fun hb => ?_)
 ·refine ok_run 6 (p' := .fin) (env' := ((2, .str []) :: (8, .bool true) :: E1)) (H' := (mkH [])) (by kernel_rfl) ?_
  exact ok_ret (r := ([] : List Nat)) (xs := [.str []]) (v := .str []) (by kernel_rfl) (by kernel_rfl) (by kernel_rfl) (.pures (by kernel_rfl)) (by kernel_rfl)
 ·refine ok_run 9 (p' := g67p6) (env' := ((3, .int .i64 1) :: (8, .bool false) :: E1)) (H' := (mkH [])) (by kernel_rfl) ?_
  refine ok_keep [0, 3] (env' := [(0, .int .i64 a0), (3, .int .i64 1)]) (by kernel_rfl) ?_
  exact (g67_l7_ok k a0 k) 1
end
end Go.Proofs.Ytokcjgjgojlhbaa.Am
set_option maxRecDepth 100000
set_option linter.unusedVariables false
set_option linter.unusedSimpArgs false
namespace Go.Proofs.Ytokcjgjgojlhbaa.Am
open Go
theorem fwu8 (x : Nat) : fwrap .u8 (x : Int) = ((x % 256 : Nat) : Int) := by
 rw [fwrap_eq]; simp [IntKind.wrap, IntKind.bits, IntKind.signed]
theorem toS_nat : ∀ l : List Nat, (∀ b ∈ l, b < 256) → toS (l.map fun (b : Nat) => (b : Int)) = some l
 | [], _ => rfl
 | b :: l, h => by
  have hb := h b (by simp)
  simp only [List.map_cons, toS, toS_nat l (fun x hx => h x (by simp [hx]))]
  rw [if_pos (by omega)]
  simp
def orOk (b : Nat) : Bool := decide (orI .u8 (b : Int) 128 = ((128 + b : Nat) : Int)) && decide (orI .u8 128 (b : Int) = ((128 + b : Nat) : Int)) && (decide (32 ≤ b) || decide (orI .u8 (b : Int) 192 = ((192 + b : Nat) : Int)) && decide (orI .u8 192 (b : Int) = ((192 + b : Nat) : Int))) && (decide (16 ≤ b) || decide (orI .u8 (b : Int) 224 = ((224 + b : Nat) : Int)) && decide (orI .u8 224 (b : Int) = ((224 + b : Nat) : Int))) && (decide (8 ≤ b) || decide (orI .u8 (b : Int) 240 = ((240 + b : Nat) : Int)) && decide (orI .u8 240 (b : Int) = ((240 + b : Nat) : Int)))
theorem orOk_all : ((List.range 64).all orOk) = true := by decide +kernel
theorem or_ok {b : Nat} (h : b < 64) : orOk b = true := List.all_eq_true.1 orOk_all b (List.mem_range.2 h)
theorem or128 {b : Nat} (h : b < 64) : orI .u8 (b : Int) 128 = ((128 + b : Nat) : Int) ∧ orI .u8 128 (b : Int) = ((128 + b : Nat) : Int) := by
 have w := or_ok h
 simp only [orOk, Bool.and_eq_true, decide_eq_true_eq] at w
 exact ⟨w.1.1.1.1, w.1.1.1.2⟩
theorem or192 {b : Nat} (h : b < 32) : orI .u8 (b : Int) 192 = ((192 + b : Nat) : Int) ∧ orI .u8 192 (b : Int) = ((192 + b : Nat) : Int) := by
 have w := or_ok (b := b) (by omega)
 simp only [orOk, Bool.and_eq_true, Bool.or_eq_true, decide_eq_true_eq] at w
 rcases w.1.1.2 with h | h
 ·omega
 ·exact h
theorem or224 {b : Nat} (h : b < 16) : orI .u8 (b : Int) 224 = ((224 + b : Nat) : Int) ∧ orI .u8 224 (b : Int) = ((224 + b : Nat) : Int) := by
 have w := or_ok (b := b) (by omega)
 simp only [orOk, Bool.and_eq_true, Bool.or_eq_true, decide_eq_true_eq] at w
 rcases w.1.2 with h | h
 ·omega
 ·exact h
theorem or240 {b : Nat} (h : b < 8) : orI .u8 (b : Int) 240 = ((240 + b : Nat) : Int) ∧ orI .u8 240 (b : Int) = ((240 + b : Nat) : Int) := by
 have w := or_ok (b := b) (by omega)
 simp only [orOk, Bool.and_eq_true, Bool.or_eq_true, decide_eq_true_eq] at w
 rcases w.2 with h | h
 ·omega
 ·exact h
def enc (c : Nat) : List Nat := if c < 128 then [c] else if c < 2048 then [192 + c / 64, 128 + c % 64] else if c < 65536 then [224 + c / 4096, 128 + c / 64 % 64, 128 + c % 64] else [240 + c / 262144, 128 + c / 4096 % 64, 128 + c / 64 % 64, 128 + c % 64]
def put (n : Int) : List Nat := if 0 ≤ n ∧ cpN n.toNat = true then enc n.toNat else []
theorem put_neg {n : Int} (h : n < 0) : put n = [] := by
 unfold put; exact if_neg (fun w => by omega)
theorem put_cp {c : Nat} (h : cpN c = true) : put (c : Int) = enc c := by
 unfold put; rw [Int.toNat_natCast]; exact if_pos ⟨by omega, h⟩
theorem put_no {c : Nat} (h : cpN c = false) : put (c : Int) = [] := by
 unfold put; rw [Int.toNat_natCast]; exact if_neg (fun w => by rw [h] at w; exact absurd w.2 (by decide))
theorem cp_neg {k : Nat} {n : Int} (h : n < 0) : g49 k n = some false ∧ g50 k n = some false := by
 unfold g49 g50
 rw [decide_eq_false (show ¬ (0 : Int) ≤ n by omega)]
 exact ⟨rfl, rfl⟩
theorem cp_le {c : Nat} (h : cpN c = true) : c ≤ 1114111 := by
 unfold cpN at h
 simp at h
 exact h.1
theorem put_b (c : Nat) : orI .u8 (andI .u8 (fwrap .u8 (c : Int)) 63) 128 = ((128 + c % 64 : Nat) : Int) := by
 rw [fwu8, (byte_ok (b := c % 256) (by omega)).1, (or128 (by omega)).1, show c % 256 % 64 = c % 64 from by omega]
theorem put_at {k : Nat} (hk : 6 ≤ k) (n : Int) : g67 k n = some (put n) := by
 obtain ⟨k, rfl⟩ : ∃ k', k = k' + 6 := ⟨k - 6, by omega⟩
 unfold g67
 by_cases hn : n < 0
 ·rw [put_neg hn, (cp_neg (k := k + 6) hn).1]; rfl
 ·obtain ⟨c, rfl⟩ : ∃ c : Nat, n = (c : Int) := ⟨n.toNat, by omega⟩
  rw [cp_at, Option.bind_some]
  by_cases hcp : cpN c = true
  ·have hle := cp_le hcp
   rw [put_cp hcp, hcp]
   simp only [Bool.not_true, Bool.false_eq_true, if_false]
   have l2 : g48 (k + 6) (fwrap .i64 (1 + 1)) = some 128 := by rfl
   have l3 : g48 (k + 6) (fwrap .i64 (2 + 1)) = some 2048 := by rfl
   have l4 : g48 (k + 6) (fwrap .i64 (3 + 1)) = some 65536 := by rfl
   have f2 : fwrap .i64 (1 + 1) = 2 := by rfl
   have f3 : fwrap .i64 (2 + 1) = 3 := by rfl
   have f4 : fwrap .i64 (3 + 1) = 4 := by rfl
   have m2 : g48 (k + 6) 2 = some 128 := by rfl
   have m3 : g48 (k + 6) 3 = some 2048 := by rfl
   have m4 : g48 (k + 6) 4 = some 65536 := by rfl
   unfold enc
   by_cases h1 : c < 128
   ·rw [if_pos h1, g67_l7_s, decide_eq_true (show (1 : Int) < 4 by decide)]
    simp only [l2, f2, m2, decide_true, Option.bind_some, jn, if_true, decide_eq_false (show ¬ (128 : Int) ≤ (c : Int) by omega), Bool.false_eq_true, if_false]
    rw [fwu8, Nat.mod_eq_of_lt (by omega)]
    have := toS_nat [c] (by intro b hb; simp at hb; omega)
    simp only [List.map_cons, List.map_nil] at this
    rw [this]; rfl
   ·rw [if_neg h1, g67_l7_s, decide_eq_true (show (1 : Int) < 4 by decide)]
    simp only [l2, f2, m2, decide_true, Option.bind_some, jn, if_true, decide_eq_true (show (128 : Int) ≤ (c : Int) by omega), f2]
    rw [g67_l7_s, decide_eq_true (show (2 : Int) < 4 by decide)]
    simp only [l3, f3, m3, decide_true, Option.bind_some, jn, if_true]
    by_cases h2 : c < 2048
    ·rw [if_pos h2, decide_eq_false (show ¬ (2048 : Int) ≤ (c : Int) by omega)]
     simp only [Bool.false_eq_true, if_false, decide_eq_false (show ¬ (2 : Int) = 1 by decide)]
     rw [show mkS (0 : Int) 1 2 = some [0, 0] from by decide, Option.bind_some, show fwrap .i64 ((2 : Int) - 1) = 1 from rfl, g67_l9_s, decide_eq_true (show (0 : Int) < 1 by decide), put_b, shrC_nat]
     simp only [if_true]
     rw [show (idxO ([0, 0] : List Int) 1) = some 1 from by decide, Option.bind_some]
     rw [show (setO ([0, 0] : List Int) 1 ((128 + c % 64 : Nat) : Int)) = some [0, ((128 + c % 64 : Nat) : Int)] from rfl, Option.bind_some, show fwrap .i64 ((1 : Int) - 1) = 0 from rfl, g67_l9_s, decide_eq_false (show ¬ (0 : Int) < 0 by decide)]
     simp only [Bool.false_eq_true, if_false]
     rw [show shlS .u8 255 (fwrap .i64 (8 - (2 : Int))) = some 192 from by decide, Option.bind_some, fwu8, show c / 2 ^ 6 % 256 = c / 64 from by omega, (or192 (by omega)).1]
     have := toS_nat [192 + c / 64, 128 + c % 64] (by intro b hb; simp at hb; omega)
     simp only [List.map_cons, List.map_nil] at this
     show (toS [((192 + c / 64 : Nat) : Int), ((128 + c % 64 : Nat) : Int)]).bind _ = _
     rw [this]; rfl
    ·rw [if_neg h2, decide_eq_true (show (2048 : Int) ≤ (c : Int) by omega)]
     simp only [if_true, f3]
     rw [g67_l7_s, decide_eq_true (show (3 : Int) < 4 by decide)]
     simp only [l4, f4, m4, decide_true, Option.bind_some, jn, if_true]
     by_cases h3 : c < 65536
     ·rw [if_pos h3, decide_eq_false (show ¬ (65536 : Int) ≤ (c : Int) by omega)]
      simp only [Bool.false_eq_true, if_false, decide_eq_false (show ¬ (3 : Int) = 1 by decide)]
      rw [show mkS (0 : Int) 1 3 = some [0, 0, 0] from by decide, Option.bind_some, show fwrap .i64 ((3 : Int) - 1) = 2 from rfl, g67_l9_s, decide_eq_true (show (0 : Int) < 2 by decide), put_b, shrC_nat]
      simp only [if_true]
      rw [show (idxO ([0, 0, 0] : List Int) 2) = some 2 from by decide, Option.bind_some]
      rw [show (setO ([0, 0, 0] : List Int) 2 ((128 + c % 64 : Nat) : Int)) = some [0, 0, ((128 + c % 64 : Nat) : Int)] from rfl, Option.bind_some, show fwrap .i64 ((2 : Int) - 1) = 1 from rfl, g67_l9_s, decide_eq_true (show (0 : Int) < 1 by decide), put_b, shrC_nat]
      simp only [if_true]
      rw [show (idxO ([0, 0, ((128 + c % 64 : Nat) : Int)] : List Int) 1) = some 1 from rfl, Option.bind_some]
      rw [show (setO ([0, 0, ((128 + c % 64 : Nat) : Int)] : List Int) 1 ((128 + c / 2 ^ 6 % 64 : Nat) : Int)) = some [0, ((128 + c / 2 ^ 6 % 64 : Nat) : Int), ((128 + c % 64 : Nat) : Int)] from rfl, Option.bind_some, show fwrap .i64 ((1 : Int) - 1) = 0 from rfl, g67_l9_s, decide_eq_false (show ¬ (0 : Int) < 0 by decide)]
      simp only [Bool.false_eq_true, if_false]
      rw [show shlS .u8 255 (fwrap .i64 (8 - (3 : Int))) = some 224 from by decide, Option.bind_some, fwu8, show c / 2 ^ 6 / 2 ^ 6 % 256 = c / 4096 from by omega, (or224 (by omega)).1]
      have := toS_nat [224 + c / 4096, 128 + c / 64 % 64, 128 + c % 64] (by intro b hb; simp at hb; omega)
      simp only [List.map_cons, List.map_nil] at this
      show (toS [((224 + c / 4096 : Nat) : Int), ((128 + c / 64 % 64 : Nat) : Int), ((128 + c % 64 : Nat) : Int)]).bind _ = _
      rw [this]; rfl
     ·rw [if_neg h3, decide_eq_true (show (65536 : Int) ≤ (c : Int) by omega)]
      simp only [if_true, f4]
      rw [g67_l7_s, decide_eq_false (show ¬ (4 : Int) < 4 by decide)]
      simp only [jn, Bool.false_eq_true, if_false, decide_eq_false (show ¬ (4 : Int) = 1 by decide)]
      rw [show mkS (0 : Int) 1 4 = some [0, 0, 0, 0] from by decide, Option.bind_some, show fwrap .i64 ((4 : Int) - 1) = 3 from rfl, g67_l9_s, decide_eq_true (show (0 : Int) < 3 by decide), put_b, shrC_nat]
      simp only [if_true]
      rw [show (idxO ([0, 0, 0, 0] : List Int) 3) = some 3 from by decide, Option.bind_some]
      rw [show (setO ([0, 0, 0, 0] : List Int) 3 ((128 + c % 64 : Nat) : Int)) = some [0, 0, 0, ((128 + c % 64 : Nat) : Int)] from rfl, Option.bind_some, show fwrap .i64 ((3 : Int) - 1) = 2 from rfl, g67_l9_s, decide_eq_true (show (0 : Int) < 2 by decide), put_b, shrC_nat]
      simp only [if_true]
      rw [show (idxO ([0, 0, 0, ((128 + c % 64 : Nat) : Int)] : List Int) 2) = some 2 from rfl, Option.bind_some]
      rw [show (setO ([0, 0, 0, ((128 + c % 64 : Nat) : Int)] : List Int) 2 ((128 + c / 2 ^ 6 % 64 : Nat) : Int)) = some [0, 0, ((128 + c / 2 ^ 6 % 64 : Nat) : Int), ((128 + c % 64 : Nat) : Int)] from rfl, Option.bind_some, show fwrap .i64 ((2 : Int) - 1) = 1 from rfl, g67_l9_s, decide_eq_true (show (0 : Int) < 1 by decide), put_b, shrC_nat]
      simp only [if_true]
      rw [show (idxO ([0, 0, ((128 + c / 2 ^ 6 % 64 : Nat) : Int), ((128 + c % 64 : Nat) : Int)] : List Int) 1) = some 1 from rfl, Option.bind_some]
      rw [show (setO ([0, 0, ((128 + c / 2 ^ 6 % 64 : Nat) : Int), ((128 + c % 64 : Nat) : Int)] : List Int) 1 ((128 + c / 2 ^ 6 / 2 ^ 6 % 64 : Nat) : Int)) = some [0, ((128 + c / 2 ^ 6 / 2 ^ 6 % 64 : Nat) : Int), ((128 + c / 2 ^ 6 % 64 : Nat) : Int), ((128 + c % 64 : Nat) : Int)] from rfl, Option.bind_some, show fwrap .i64 ((1 : Int) - 1) = 0 from rfl, g67_l9_s, decide_eq_false (show ¬ (0 : Int) < 0 by decide)]
      simp only [Bool.false_eq_true, if_false]
      rw [show shlS .u8 255 (fwrap .i64 (8 - (4 : Int))) = some 240 from by decide, Option.bind_some, fwu8, show c / 2 ^ 6 / 2 ^ 6 / 2 ^ 6 % 256 = c / 262144 from by omega, (or240 (by omega)).1]
      have := toS_nat [240 + c / 262144, 128 + c / 4096 % 64, 128 + c / 64 % 64, 128 + c % 64] (by intro b hb; simp at hb; omega)
      simp only [List.map_cons, List.map_nil] at this
      show (toS [((240 + c / 262144 : Nat) : Int), ((128 + c / 2 ^ 6 / 2 ^ 6 % 64 : Nat) : Int), ((128 + c / 64 % 64 : Nat) : Int), ((128 + c % 64 : Nat) : Int)]).bind _ = _
      rw [show c / 2 ^ 6 / 2 ^ 6 % 64 = c / 4096 % 64 from by omega, this]; rfl
  ·simp at hcp
   rw [put_no hcp, hcp]; rfl
end Go.Proofs.Ytokcjgjgojlhbaa.Am
set_option maxRecDepth 100000
set_option linter.unusedVariables false
namespace Go.Proofs.Ytokcjgjgojlhbaa.Am
noncomputable section
open Go
def X61 : Fx (Int × Int) := ⟨Try.prog, cx, Try.f61, fun r => .tuple [.int .i64 r.1, .int .i64 r.2], 0, fun _ => H0, cxTi, cxOrd⟩
def g61p0 : Pt := nav [0] (bodyAt Try.f61)
def g61p1 : Pt := nav [0, 0, 0] g61p0
def g61p2 : Pt := nav [0, 0, 0, 0] g61p1
def g61p3 : Pt := nav [0, 0] g61p2
def g61p5 : Pt := nav [2, 0, 0] g61p3
def g61p6 : Pt := nav [0, 0, 0, 0, 0] g61p5
def g61p7 : Pt := nav [0, 0, 0] g61p6
def g61p8 : Pt := nav [0, 0] g61p7
def g61p9 : Pt := nav [1, 0, 0, 0] g61p8
def g61p10 : Pt := nav [2, 0, 0] g61p8
def g61p11 : Pt := nav [0, 0] g61p9
def g61p12 : Pt := nav [0, 0, 0, 0] g61p10
def g61p13 : Pt := nav [0, 0] g61p12
def g61_l6 (k : Nat)  (a0 : (List Nat)) (a1 : Int) (z5 : Int × Int × Int) (n : Nat) : Int → Int → Option (Int × Int) :=
 Nat.rec (motive := fun _ => Int → Int → Option (Int × Int)) (fun _ _ => none) (fun _ ih => fun (y6_0 : Int) (y6_1 : Int) => jn (fun (z7 : Bool × Int × Int) => if z7.1 then ((nthS a0 (fwrap .i64 (z5.1 + z7.2.2))).bind fun x2_6 => (g63 k x2_6).bind fun x2_7 => ih (orI .i64 (shlC .i64 z7.2.1 4) x2_7) (fwrap .i64 (z7.2.2 + 1))) else (jn (fun (z8 : Int × Int × Bool) => if z8.2.2 then (some (((-1) : Int), (0 : Int))) else (some (z8.1, fwrap .i64 (fwrap .i64 (z8.2.1 + z5.2.2) - a1)))) (fun j8 => if (decide (z5.2.2 = 0)) then (if (decide (z7.2.2 < 2)) then (j8 (z7.2.1, fwrap .i64 (z5.1 + z7.2.2), true)) else (if (decide (z7.2.2 < 1)) then (j8 (z7.2.1, fwrap .i64 (z5.1 + z7.2.2), true)) else (if (decide (z5.2.2 = 1)) then (if (decide ((a0.length : Int) ≤ fwrap .i64 (z5.1 + z7.2.2))) then (j8 (z7.2.1, fwrap .i64 (z5.1 + z7.2.2), true)) else ((nthS a0 (fwrap .i64 (z5.1 + z7.2.2))).bind fun x3_21 => if (!decide (x3_21 = 125)) then (j8 (z7.2.1, fwrap .i64 (z5.1 + z7.2.2), true)) else ((g67 k z7.2.1).bind fun x3_28 => j8 (z7.2.1, fwrap .i64 (z5.1 + z7.2.2), eqL x3_28 [])))) else ((g67 k z7.2.1).bind fun x3_28 => j8 (z7.2.1, fwrap .i64 (z5.1 + z7.2.2), eqL x3_28 []))))) else (if (decide (z7.2.2 < 1)) then (j8 (z7.2.1, fwrap .i64 (z5.1 + z7.2.2), true)) else (if (decide (z5.2.2 = 1)) then (if (decide ((a0.length : Int) ≤ fwrap .i64 (z5.1 + z7.2.2))) then (j8 (z7.2.1, fwrap .i64 (z5.1 + z7.2.2), true)) else ((nthS a0 (fwrap .i64 (z5.1 + z7.2.2))).bind fun x3_21 => if (!decide (x3_21 = 125)) then (j8 (z7.2.1, fwrap .i64 (z5.1 + z7.2.2), true)) else ((g67 k z7.2.1).bind fun x3_28 => j8 (z7.2.1, fwrap .i64 (z5.1 + z7.2.2), eqL x3_28 [])))) else ((g67 k z7.2.1).bind fun x3_28 => j8 (z7.2.1, fwrap .i64 (z5.1 + z7.2.2), eqL x3_28 []))))))) (fun j7 => if (decide (y6_1 < z5.2.1)) then (if (decide (fwrap .i64 (z5.1 + y6_1) < (a0.length : Int))) then ((nthS a0 (fwrap .i64 (z5.1 + y6_1))).bind fun x1_16 => (g63 k x1_16).bind fun x1_17 => j7 (decide (x1_17 < 16), y6_0, y6_1)) else (j7 (false, y6_0, y6_1))) else (j7 (false, y6_0, y6_1)))) n
theorem g61_l6_s (k : Nat)  (a0 : (List Nat)) (a1 : Int) (z5 : Int × Int × Int) (n : Nat) (y6_0 : Int) (y6_1 : Int) : g61_l6 k a0 a1 z5 (n + 1) y6_0 y6_1 = (jn (fun (z7 : Bool × Int × Int) => if z7.1 then ((nthS a0 (fwrap .i64 (z5.1 + z7.2.2))).bind fun x2_6 => (g63 k x2_6).bind fun x2_7 => (g61_l6 k a0 a1 z5 n) (orI .i64 (shlC .i64 z7.2.1 4) x2_7) (fwrap .i64 (z7.2.2 + 1))) else (jn (fun (z8 : Int × Int × Bool) => if z8.2.2 then (some (((-1) : Int), (0 : Int))) else (some (z8.1, fwrap .i64 (fwrap .i64 (z8.2.1 + z5.2.2) - a1)))) (fun j8 => if (decide (z5.2.2 = 0)) then (if (decide (z7.2.2 < 2)) then (j8 (z7.2.1, fwrap .i64 (z5.1 + z7.2.2), true)) else (if (decide (z7.2.2 < 1)) then (j8 (z7.2.1, fwrap .i64 (z5.1 + z7.2.2), true)) else (if (decide (z5.2.2 = 1)) then (if (decide ((a0.length : Int) ≤ fwrap .i64 (z5.1 + z7.2.2))) then (j8 (z7.2.1, fwrap .i64 (z5.1 + z7.2.2), true)) else ((nthS a0 (fwrap .i64 (z5.1 + z7.2.2))).bind fun x3_21 => if (!decide (x3_21 = 125)) then (j8 (z7.2.1, fwrap .i64 (z5.1 + z7.2.2), true)) else ((g67 k z7.2.1).bind fun x3_28 => j8 (z7.2.1, fwrap .i64 (z5.1 + z7.2.2), eqL x3_28 [])))) else ((g67 k z7.2.1).bind fun x3_28 => j8 (z7.2.1, fwrap .i64 (z5.1 + z7.2.2), eqL x3_28 []))))) else (if (decide (z7.2.2 < 1)) then (j8 (z7.2.1, fwrap .i64 (z5.1 + z7.2.2), true)) else (if (decide (z5.2.2 = 1)) then (if (decide ((a0.length : Int) ≤ fwrap .i64 (z5.1 + z7.2.2))) then (j8 (z7.2.1, fwrap .i64 (z5.1 + z7.2.2), true)) else ((nthS a0 (fwrap .i64 (z5.1 + z7.2.2))).bind fun x3_21 => if (!decide (x3_21 = 125)) then (j8 (z7.2.1, fwrap .i64 (z5.1 + z7.2.2), true)) else ((g67 k z7.2.1).bind fun x3_28 => j8 (z7.2.1, fwrap .i64 (z5.1 + z7.2.2), eqL x3_28 [])))) else ((g67 k z7.2.1).bind fun x3_28 => j8 (z7.2.1, fwrap .i64 (z5.1 + z7.2.2), eqL x3_28 []))))))) (fun j7 => if (decide (y6_1 < z5.2.1)) then (if (decide (fwrap .i64 (z5.1 + y6_1) < (a0.length : Int))) then ((nthS a0 (fwrap .i64 (z5.1 + y6_1))).bind fun x1_16 => (g63 k x1_16).bind fun x1_17 => j7 (decide (x1_17 < 16), y6_0, y6_1)) else (j7 (false, y6_0, y6_1))) else (j7 (false, y6_0, y6_1)))) := rfl
theorem g61_l6_ok (k : Nat)  (a0 : (List Nat)) (a1 : Int) (z5 : Int × Int × Int)  : ∀ (n : Nat) (y6_0 : Int) (y6_1 : Int), Ok X61 g61p6 [(0, .str a0), (1, .int .i64 a1), (6, .int .i64 z5.1), (7, .int .i64 z5.2.1), (8, .int .i64 z5.2.2), (9, .int .i64 y6_0), (10, .int .i64 y6_1)] (mkH []) (g61_l6 k a0 a1 z5 n y6_0 y6_1)
 | 0, _, _ => ok_none
 | n + 1, y6_0, y6_1 => by
  have ih := g61_l6_ok k a0 a1 z5 n
  rw [g61_l6_s]
  refine ok_ent (p' := nav [0] g61p6) (by kernel_rfl) ?_
  let E3 : Env := [(29, .bool (decide (y6_1 < z5.2.1))), (28, .bool (decide (y6_1 < z5.2.1))), (27, .int .i64 z5.2.1), (26, .int .i64 y6_1), (0, .str a0), (1, .int .i64 a1), (6, .int .i64 z5.1), (7, .int .i64 z5.2.1), (8, .int .i64 z5.2.2), (9, .int .i64 y6_0), (10, .int .i64 y6_1)]
  refine ok_run 7 (p' := (atN 4 (ctl1 g61p7))) (env' := E3) (H' := (mkH [])) (by kernel_rfl) ?_
  refine ok_jn (f := fun (z7 : Bool × Int × Int) => if z7.1 then ((nthS a0 (fwrap .i64 (z5.1 + z7.2.2))).bind fun x2_6 => (g63 k x2_6).bind fun x2_7 => (g61_l6 k a0 a1 z5 n) (orI .i64 (shlC .i64 z7.2.1 4) x2_7) (fwrap .i64 (z7.2.2 + 1))) else (jn (fun (z8 : Int × Int × Bool) => if z8.2.2 then (some (((-1) : Int), (0 : Int))) else (some (z8.1, fwrap .i64 (fwrap .i64 (z8.2.1 + z5.2.2) - a1)))) (fun j8 => if (decide (z5.2.2 = 0)) then (if (decide (z7.2.2 < 2)) then (j8 (z7.2.1, fwrap .i64 (z5.1 + z7.2.2), true)) else (if (decide (z7.2.2 < 1)) then (j8 (z7.2.1, fwrap .i64 (z5.1 + z7.2.2), true)) else (if (decide (z5.2.2 = 1)) then (if (decide ((a0.length : Int) ≤ fwrap .i64 (z5.1 + z7.2.2))) then (j8 (z7.2.1, fwrap .i64 (z5.1 + z7.2.2), true)) else ((nthS a0 (fwrap .i64 (z5.1 + z7.2.2))).bind fun x3_21 => if (!decide (x3_21 = 125)) then (j8 (z7.2.1, fwrap .i64 (z5.1 + z7.2.2), true)) else ((g67 k z7.2.1).bind fun x3_28 => j8 (z7.2.1, fwrap .i64 (z5.1 + z7.2.2), eqL x3_28 [])))) else ((g67 k z7.2.1).bind fun x3_28 => j8 (z7.2.1, fwrap .i64 (z5.1 + z7.2.2), eqL x3_28 []))))) else (if (decide (z7.2.2 < 1)) then (j8 (z7.2.1, fwrap .i64 (z5.1 + z7.2.2), true)) else (if (decide (z5.2.2 = 1)) then (if (decide ((a0.length : Int) ≤ fwrap .i64 (z5.1 + z7.2.2))) then (j8 (z7.2.1, fwrap .i64 (z5.1 + z7.2.2), true)) else ((nthS a0 (fwrap .i64 (z5.1 + z7.2.2))).bind fun x3_21 => if (!decide (x3_21 = 125)) then (j8 (z7.2.1, fwrap .i64 (z5.1 + z7.2.2), true)) else ((g67 k z7.2.1).bind fun x3_28 => j8 (z7.2.1, fwrap .i64 (z5.1 + z7.2.2), eqL x3_28 [])))) else ((g67 k z7.2.1).bind fun x3_28 => j8 (z7.2.1, fwrap .i64 (z5.1 + z7.2.2), eqL x3_28 []))))))) g61p8 (fun (z7 : Bool × Int × Int) => [(0, .str a0), (1, .int .i64 a1), (6, .int .i64 z5.1), (7, .int .i64 z5.2.1), (8, .int .i64 z5.2.2), (9, .int .i64 z7.2.1), (10, .int .i64 z7.2.2), (45, .bool z7.1)]) (fun (z7 : Bool × Int × Int) => (mkH [])) (fun z7 => ?_) (fun j7 hj7 => ?_)
  ·refine ok_split 45 (b := z7.1) (by kernel_rfl) (fun hb => ?_) (fun hb => ?_)
   ·let E4 : Env := [(51, .int .i64 (fwrap .i64 (z5.1 + z7.2.2))), (50, .int .i64 z7.2.2), (49, .int .i64 z5.1), (48, .str a0), (47, .int .i64 (shlC .i64 z7.2.1 4)), (46, .int .i64 z7.2.1), (45, .bool true), (0, .str a0), (1, .int .i64 a1), (6, .int .i64 z5.1), (7, .int .i64 z5.2.1), (8, .int .i64 z5.2.2), (9, .int .i64 z7.2.1), (10, .int .i64 z7.2.2), (45, .bool z7.1)]
    refine ok_run 11 (p' := (atN 6 (ctl1 g61p9))) (env' := E4) (H' := (mkH [])) (by kernel_rfl) ?_
    refine ok_chk (fun (x2_6 : Int) => (.int .u8 x2_6, (mkH []))) (atN 7 (ctl1 g61p9)) (fun x2_6 => ((52, .int .u8 x2_6) :: E4)) (idxH (by kernel_rfl)) (fun _ => by kernel_rfl) (fun x2_6 hx2_6 => ?_)
    refine ok_call (fun (x2_7 : Int) => .int .i64 x2_7) (atN 8 (ctl1 g61p9)) (fun x2_7 => ((53, .int .i64 x2_7) :: (52, .int .u8 x2_6) :: E4)) (fi := 63) (args := [.int .u8 x2_6]) (by kernel_rfl) (by kernel_rfl) (fun _ => by kernel_rfl) (fun r h => g63_ok k x2_6 r h) (fun _ => by kernel_rfl) (fun x2_7 hx2_7 => ?_)
    refine ok_run 3 (p' := g61p11) (env' := ((9, .int .i64 (orI .i64 (shlC .i64 z7.2.1 4) x2_7)) :: (54, .int .i64 (orI .i64 (shlC .i64 z7.2.1 4) x2_7)) :: (53, .int .i64 x2_7) :: (52, .int .u8 x2_6) :: E4)) (H' := (mkH [])) (by kernel_rfl) ?_
    refine ok_keep [0, 1, 6, 7, 8, 9, 10] (env' := [(0, .str a0), (1, .int .i64 a1), (6, .int .i64 z5.1), (7, .int .i64 z5.2.1), (8, .int .i64 z5.2.2), (9, .int .i64 (orI .i64 (shlC .i64 z7.2.1 4) x2_7)), (10, .int .i64 z7.2.2)]) (by kernel_rfl) ?_
    let E5 : Env := [(10, .int .i64 (fwrap .i64 (z7.2.2 + 1))), (56, .int .i64 (fwrap .i64 (z7.2.2 + 1))), (55, .int .i64 z7.2.2), (0, .str a0), (1, .int .i64 a1), (6, .int .i64 z5.1), (7, .int .i64 z5.2.1), (8, .int .i64 z5.2.2), (9, .int .i64 (orI .i64 (shlC .i64 z7.2.1 4) x2_7)), (10, .int .i64 z7.2.2)]
    refine ok_run 5 (p' := g61p6) (env' := E5) (H' := (mkH [])) (by kernel_rfl) ?_
    refine ok_keep [0, 1, 6, 7, 8, 9, 10] (env' := [(0, .str a0), (1, .int .i64 a1), (6, .int .i64 z5.1), (7, .int .i64 z5.2.1), (8, .int .i64 z5.2.2), (9, .int .i64 (orI .i64 (shlC .i64 z7.2.1 4) x2_7)), (10, .int .i64 (fwrap .i64 (z7.2.2 + 1)))]) (by kernel_rfl) ?_
    exact ih (orI .i64 (shlC .i64 z7.2.1 4) x2_7) (fwrap .i64 (z7.2.2 + 1))
   ·let E6 : Env := [(11, .int .i64 (fwrap .i64 (z5.1 + z7.2.2))), (59, .int .i64 (fwrap .i64 (z5.1 + z7.2.2))), (58, .int .i64 z7.2.2), (57, .int .i64 z5.1), (45, .bool false), (0, .str a0), (1, .int .i64 a1), (6, .int .i64 z5.1), (7, .int .i64 z5.2.1), (8, .int .i64 z5.2.2), (9, .int .i64 z7.2.1), (10, .int .i64 z7.2.2), (45, .bool z7.1)]
    refine ok_run 11 (p' := g61p12) (env' := E6) (H' := (mkH [])) (by kernel_rfl) ?_
    refine ok_keep [0, 1, 8, 9, 10, 11] (env' := [(0, .str a0), (1, .int .i64 a1), (8, .int .i64 z5.2.2), (9, .int .i64 z7.2.1), (10, .int .i64 z7.2.2), (11, .int .i64 (fwrap .i64 (z5.1 + z7.2.2)))]) (by kernel_rfl) ?_
    let E7 : Env := [(62, .bool (decide (z5.2.2 = 0))), (61, .bool (decide (z5.2.2 = 0))), (60, .int .i64 z5.2.2), (0, .str a0), (1, .int .i64 a1), (8, .int .i64 z5.2.2), (9, .int .i64 z7.2.1), (10, .int .i64 z7.2.2), (11, .int .i64 (fwrap .i64 (z5.1 + z7.2.2)))]
    refine ok_run 4 (p' := (atN 3 (ctl1 g61p12))) (env' := E7) (H' := (mkH [])) (by kernel_rfl) ?_
    refine ok_jn (f := fun (z8 : Int × Int × Bool) => if z8.2.2 then (some (((-1) : Int), (0 : Int))) else (some (z8.1, fwrap .i64 (fwrap .i64 (z8.2.1 + z5.2.2) - a1)))) g61p13 (fun (z8 : Int × Int × Bool) => [(1, .int .i64 a1), (8, .int .i64 z5.2.2), (9, .int .i64 z8.1), (11, .int .i64 z8.2.1), (90, .bool z8.2.2)]) (fun (z8 : Int × Int × Bool) => (mkH [])) (fun z8 => ?_) (fun j8 hj8 => ?_)
    ·refine ok_split 90 (b := z8.2.2) (by kernel_rfl) (fun hb => ?_) (fun hb => ?_)
     ·let E8 : Env := [(5, .int .i64 0), (4, .int .i64 (-1)), (90, .bool true), (1, .int .i64 a1), (8, .int .i64 z5.2.2), (9, .int .i64 z8.1), (11, .int .i64 z8.2.1), (90, .bool z8.2.2)]
      refine ok_run 7 (p' := .fin) (env' := E8) (H' := (mkH [])) (by kernel_rfl) ?_
      exact ok_ret (r := (((-1) : Int), (0 : Int))) (xs := [.int .i64 (-1), .int .i64 0]) (v := .tuple [.int .i64 (-1), .int .i64 0]) (by kernel_rfl) (by kernel_rfl) (by kernel_rfl) (.pures (by kernel_rfl)) (by kernel_rfl)
     ·let E9 : Env := [(5, .int .i64 (fwrap .i64 (fwrap .i64 (z8.2.1 + z5.2.2) - a1))), (4, .int .i64 z8.1), (96, .int .i64 (fwrap .i64 (fwrap .i64 (z8.2.1 + z5.2.2) - a1))), (95, .int .i64 a1), (94, .int .i64 (fwrap .i64 (z8.2.1 + z5.2.2))), (93, .int .i64 z5.2.2), (92, .int .i64 z8.2.1), (91, .int .i64 z8.1), (90, .bool false), (1, .int .i64 a1), (8, .int .i64 z5.2.2), (9, .int .i64 z8.1), (11, .int .i64 z8.2.1), (90, .bool z8.2.2)]
      refine ok_run 14 (p' := .fin) (env' := E9) (H' := (mkH [])) (by kernel_rfl) ?_
      exact ok_ret (r := (z8.1, fwrap .i64 (fwrap .i64 (z8.2.1 + z5.2.2) - a1))) (xs := [.int .i64 z8.1, .int .i64 (fwrap .i64 (fwrap .i64 (z8.2.1 + z5.2.2) - a1))]) (v := .tuple [.int .i64 z8.1, .int .i64 (fwrap .i64 (fwrap .i64 (z8.2.1 + z5.2.2) - a1))]) (by kernel_rfl) (by kernel_rfl) (by kernel_rfl) (.pures (by kernel_rfl)) (by kernel_rfl)
    ·refine ok_split 62 (b := decide (z5.2.2 = 0)) (by kernel_rfl) (fun hb => ?_) (fun hb => ?_)
     ·let E10 : Env := ((66, .bool (decide (z7.2.2 < 2))) :: (65, .bool (decide (z7.2.2 < 2))) :: (64, .bool (decide (z7.2.2 < 2))) :: (63, .int .i64 z7.2.2) :: (62, .bool true) :: E7)
      refine ok_run 4 (p' := (atN 7 (ctl1 g61p12))) (env' := E10) (H' := (mkH [])) (by kernel_rfl) ?_
      refine ok_split 66 (b := decide (z7.2.2 < 2)) (by kernel_rfl) (fun hb => ?_) (fun hb => ?_)
      ·let E11 : Env := ((90, .bool true) :: (89, .tuple []) :: (88, .tuple []) :: (87, .tuple []) :: (86, .bool true) :: (85, .bool true) :: (84, .tuple []) :: (83, .tuple []) :: (82, .tuple []) :: (81, .tuple []) :: (80, .tuple []) :: (79, .tuple []) :: (78, .tuple []) :: (77, .tuple []) :: (76, .tuple []) :: (75, .tuple []) :: (74, .tuple []) :: (73, .tuple []) :: (72, .tuple []) :: (71, .tuple []) :: (70, .bool true) :: (69, .bool true) :: (68, .tuple []) :: (67, .tuple []) :: (66, .bool true) :: E10)
       refine ok_run 25 (p' := g61p13) (env' := E11) (H' := (mkH [])) (by kernel_rfl) ?_
       refine ok_keep [1, 8, 9, 11, 90] (env' := [(1, .int .i64 a1), (8, .int .i64 z5.2.2), (9, .int .i64 z7.2.1), (11, .int .i64 (fwrap .i64 (z5.1 + z7.2.2))), (90, .bool true)]) (by kernel_rfl) ?_
       exact hj8 (z7.2.1, fwrap .i64 (z5.1 + z7.2.2), true)
      ·let E12 : Env := ((70, .bool (decide (z7.2.2 < 1))) :: (69, .bool (decide (z7.2.2 < 1))) :: (68, .bool (decide (z7.2.2 < 1))) :: (67, .int .i64 z7.2.2) :: (66, .bool false) :: E10)
       refine ok_run 4 (p' := (atN 11 (ctl1 g61p12))) (env' := E12) (H' := (mkH [])) (by kernel_rfl) ?_
       refine ok_split 70 (b := decide (z7.2.2 < 1)) (by kernel_rfl) (fun hb => ?_) (fun hb => ?_)
       ·let E13 : Env := ((90, .bool true) :: (89, .tuple []) :: (88, .tuple []) :: (87, .tuple []) :: (86, .bool true) :: (85, .bool true) :: (84, .tuple []) :: (83, .tuple []) :: (82, .tuple []) :: (81, .tuple []) :: (80, .tuple []) :: (79, .tuple []) :: (78, .tuple []) :: (77, .tuple []) :: (76, .tuple []) :: (75, .tuple []) :: (74, .tuple []) :: (73, .tuple []) :: (72, .tuple []) :: (71, .tuple []) :: (70, .bool true) :: E12)
        refine ok_run 21 (p' := g61p13) (env' := E13) (H' := (mkH [])) (by kernel_rfl) ?_
        refine ok_keep [1, 8, 9, 11, 90] (env' := [(1, .int .i64 a1), (8, .int .i64 z5.2.2), (9, .int .i64 z7.2.1), (11, .int .i64 (fwrap .i64 (z5.1 + z7.2.2))), (90, .bool true)]) (by kernel_rfl) ?_
        exact hj8 (z7.2.1, fwrap .i64 (z5.1 + z7.2.2), true)
       ·refine ok_run 3 (p' := (atN 14 (ctl1 g61p12))) (env' := ((73, .bool (decide (z5.2.2 = 1))) :: (72, .bool (decide (z5.2.2 = 1))) :: (71, .int .i64 z5.2.2) :: (70, .bool false) :: E12)) (H' := (mkH [])) (by kernel_rfl) ?_
        refine ok_split 73 (b := decide (z5.2.2 = 1)) (by kernel_rfl) (fun hb => ?_) (fun hb => ?_)
        ·let E14 : Env := ((78, .bool (decide ((a0.length : Int) ≤ fwrap .i64 (z5.1 + z7.2.2)))) :: (77, .bool (decide ((a0.length : Int) ≤ fwrap .i64 (z5.1 + z7.2.2)))) :: (76, .int .i64 (a0.length : Int)) :: (75, .str a0) :: (74, .int .i64 (fwrap .i64 (z5.1 + z7.2.2))) :: (73, .bool true) :: (73, .bool (decide (z5.2.2 = 1))) :: (72, .bool (decide (z5.2.2 = 1))) :: (71, .int .i64 z5.2.2) :: (70, .bool false) :: E12)
         refine ok_run 5 (p' := (atN 19 (ctl1 g61p12))) (env' := E14) (H' := (mkH [])) (by kernel_rfl) ?_
         refine ok_split 78 (b := decide ((a0.length : Int) ≤ fwrap .i64 (z5.1 + z7.2.2))) (by kernel_rfl) (fun hb => ?_) (fun hb => ?_)
         ·let E15 : Env := ((90, .bool true) :: (89, .tuple []) :: (88, .tuple []) :: (87, .tuple []) :: (86, .bool true) :: (85, .bool true) :: (84, .bool true) :: (83, .bool true) :: (82, .tuple []) :: (81, .tuple []) :: (80, .tuple []) :: (79, .tuple []) :: (78, .bool true) :: E14)
          refine ok_run 13 (p' := g61p13) (env' := E15) (H' := (mkH [])) (by kernel_rfl) ?_
          refine ok_keep [1, 8, 9, 11, 90] (env' := [(1, .int .i64 a1), (8, .int .i64 z5.2.2), (9, .int .i64 z7.2.1), (11, .int .i64 (fwrap .i64 (z5.1 + z7.2.2))), (90, .bool true)]) (by kernel_rfl) ?_
          exact hj8 (z7.2.1, fwrap .i64 (z5.1 + z7.2.2), true)
         ·refine ok_run 2 (p' := (atN 21 (ctl1 g61p12))) (env' := ((80, .int .i64 (fwrap .i64 (z5.1 + z7.2.2))) :: (79, .str a0) :: (78, .bool false) :: E14)) (H' := (mkH [])) (by kernel_rfl) ?_
          refine ok_chk (fun (x3_21 : Int) => (.int .u8 x3_21, (mkH []))) (atN 22 (ctl1 g61p12)) (fun x3_21 => ((81, .int .u8 x3_21) :: (80, .int .i64 (fwrap .i64 (z5.1 + z7.2.2))) :: (79, .str a0) :: (78, .bool false) :: E14)) (idxH (by kernel_rfl)) (fun _ => by kernel_rfl) (fun x3_21 hx3_21 => ?_)
          let E16 : Env := ((86, .bool (!decide (x3_21 = 125))) :: (85, .bool (!decide (x3_21 = 125))) :: (84, .bool (!decide (x3_21 = 125))) :: (83, .bool (!decide (x3_21 = 125))) :: (82, .bool (!decide (x3_21 = 125))) :: (81, .int .u8 x3_21) :: (80, .int .i64 (fwrap .i64 (z5.1 + z7.2.2))) :: (79, .str a0) :: (78, .bool false) :: E14)
          refine ok_run 5 (p' := (atN 27 (ctl1 g61p12))) (env' := E16) (H' := (mkH [])) (by kernel_rfl) ?_
          refine ok_split 86 (b := !decide (x3_21 = 125)) (by kernel_rfl) (fun hb => ?_) (fun hb => ?_)
          ·let E17 : Env := ((90, .bool true) :: (89, .tuple []) :: (88, .tuple []) :: (87, .tuple []) :: (86, .bool true) :: E16)
           refine ok_run 5 (p' := g61p13) (env' := E17) (H' := (mkH [])) (by kernel_rfl) ?_
           refine ok_keep [1, 8, 9, 11, 90] (env' := [(1, .int .i64 a1), (8, .int .i64 z5.2.2), (9, .int .i64 z7.2.1), (11, .int .i64 (fwrap .i64 (z5.1 + z7.2.2))), (90, .bool true)]) (by kernel_rfl) ?_
           exact hj8 (z7.2.1, fwrap .i64 (z5.1 + z7.2.2), true)
          ·refine ok_run 1 (p' := (atN 28 (ctl1 g61p12))) (env' := ((87, .int .i64 z7.2.1) :: (86, .bool false) :: E16)) (H' := (mkH [])) (by kernel_rfl) ?_
           refine ok_call (fun (x3_28 : (List Nat)) => .str x3_28) (atN 29 (ctl1 g61p12)) (fun x3_28 => ((88, .str x3_28) :: (87, .int .i64 z7.2.1) :: (86, .bool false) :: E16)) (fi := 67) (args := [.int .i64 z7.2.1]) (by kernel_rfl) (by kernel_rfl) (fun _ => by kernel_rfl) (fun r h => g67_ok k z7.2.1 r h) (fun _ => by kernel_rfl) (fun x3_28 hx3_28 => ?_)
           let E18 : Env := ((90, .bool (eqL x3_28 [])) :: (89, .bool (eqL x3_28 [])) :: (88, .str x3_28) :: (87, .int .i64 z7.2.1) :: (86, .bool false) :: E16)
           refine ok_run 3 (p' := g61p13) (env' := E18) (H' := (mkH [])) (by kernel_rfl) ?_
           refine ok_keep [1, 8, 9, 11, 90] (env' := [(1, .int .i64 a1), (8, .int .i64 z5.2.2), (9, .int .i64 z7.2.1), (11, .int .i64 (fwrap .i64 (z5.1 + z7.2.2))), (90, .bool (eqL x3_28 []))]) (by kernel_rfl) ?_
           exact hj8 (z7.2.1, fwrap .i64 (z5.1 + z7.2.2), eqL x3_28 [])
        ·let E19 : Env := ((87, .int .i64 z7.2.1) :: (86, .bool false) :: (85, .bool false) :: (84, .bool false) :: (83, .tuple []) :: (82, .tuple []) :: (81, .tuple []) :: (80, .tuple []) :: (79, .tuple []) :: (78, .tuple []) :: (77, .tuple []) :: (76, .tuple []) :: (75, .tuple []) :: (74, .tuple []) :: (73, .bool false) :: (73, .bool (decide (z5.2.2 = 1))) :: (72, .bool (decide (z5.2.2 = 1))) :: (71, .int .i64 z5.2.2) :: (70, .bool false) :: E12)
         refine ok_run 14 (p' := (atN 28 (ctl1 g61p12))) (env' := E19) (H' := (mkH [])) (by kernel_rfl) ?_
         refine ok_call (fun (x3_28 : (List Nat)) => .str x3_28) (atN 29 (ctl1 g61p12)) (fun x3_28 => ((88, .str x3_28) :: E19)) (fi := 67) (args := [.int .i64 z7.2.1]) (by kernel_rfl) (by kernel_rfl) (fun _ => by kernel_rfl) (fun r h => g67_ok k z7.2.1 r h) (fun _ => by kernel_rfl) (fun x3_28 hx3_28 => ?_)
         refine ok_run 3 (p' := g61p13) (env' := ((90, .bool (eqL x3_28 [])) :: (89, .bool (eqL x3_28 [])) :: (88, .str x3_28) :: E19)) (H' := (mkH [])) (by kernel_rfl) ?_
         refine ok_keep [1, 8, 9, 11, 90] (env' := [(1, .int .i64 a1), (8, .int .i64 z5.2.2), (9, .int .i64 z7.2.1), (11, .int .i64 (fwrap .i64 (z5.1 + z7.2.2))), (90, .bool (eqL x3_28 []))]) (by kernel_rfl) ?_
         exact hj8 (z7.2.1, fwrap .i64 (z5.1 + z7.2.2), eqL x3_28 [])
     ·let E20 : Env := ((70, .bool (decide (z7.2.2 < 1))) :: (69, .bool (decide (z7.2.2 < 1))) :: (68, .bool (decide (z7.2.2 < 1))) :: (67, .int .i64 z7.2.2) :: (66, .bool false) :: (65, .bool false) :: (64, .tuple []) :: (63, .tuple []) :: (62, .bool false) :: E7)
      refine ok_run 8 (p' := (atN 11 (ctl1 g61p12))) (env' := E20) (H' := (mkH [])) (by kernel_rfl) ?_
      refine ok_split 70 (b := decide (z7.2.2 < 1)) (by kernel_rfl) (fun hb => ?_) (fun hb => ?_)
      ·let E21 : Env := ((90, .bool true) :: (89, .tuple []) :: (88, .tuple []) :: (87, .tuple []) :: (86, .bool true) :: (85, .bool true) :: (84, .tuple []) :: (83, .tuple []) :: (82, .tuple []) :: (81, .tuple []) :: (80, .tuple []) :: (79, .tuple []) :: (78, .tuple []) :: (77, .tuple []) :: (76, .tuple []) :: (75, .tuple []) :: (74, .tuple []) :: (73, .tuple []) :: (72, .tuple []) :: (71, .tuple []) :: (70, .bool true) :: E20)
       refine ok_run 21 (p' := g61p13) (env' := E21) (H' := (mkH [])) (by kernel_rfl) ?_
       refine ok_keep [1, 8, 9, 11, 90] (env' := [(1, .int .i64 a1), (8, .int .i64 z5.2.2), (9, .int .i64 z7.2.1), (11, .int .i64 (fwrap .i64 (z5.1 + z7.2.2))), (90, .bool true)]) (by kernel_rfl) ?_
       exact hj8 (z7.2.1, fwrap .i64 (z5.1 + z7.2.2), true)
      ·refine ok_run 3 (p' := (atN 14 (ctl1 g61p12))) (env' := ((73, .bool (decide (z5.2.2 = 1))) :: (72, .bool (decide (z5.2.2 = 1))) :: (71, .int .i64 z5.2.2) :: (70, .bool false) :: E20)) (H' := (mkH [])) (by kernel_rfl) ?_
       refine ok_split 73 (b := decide (z5.2.2 = 1)) (by kernel_rfl) (fun hb => ?_) (fun hb => ?_)
       ·let E22 : Env := ((78, .bool (decide ((a0.length : Int) ≤ fwrap .i64 (z5.1 + z7.2.2)))) :: (77, .bool (decide ((a0.length : Int) ≤ fwrap .i64 (z5.1 + z7.2.2)))) :: (76, .int .i64 (a0.length : Int)) :: (75, .str a0) :: (74, .int .i64 (fwrap .i64 (z5.1 + z7.2.2))) :: (73, .bool true) :: (73, .bool (decide (z5.2.2 = 1))) :: (72, .bool (decide (z5.2.2 = 1))) :: (71, .int .i64 z5.2.2) :: (70, .bool false) :: E20)
        refine ok_run 5 (p' := (atN 19 (ctl1 g61p12))) (env' := E22) (H' := (mkH [])) (by kernel_rfl) ?_
        refine ok_split 78 (b := decide ((a0.length : Int) ≤ fwrap .i64 (z5.1 + z7.2.2))) (by kernel_rfl) (fun hb => ?_) (fun hb => ?_)
        ·let E23 : Env := ((90, .bool true) :: (89, .tuple []) :: (88, .tuple []) :: (87, .tuple []) :: (86, .bool true) :: (85, .bool true) :: (84, .bool true) :: (83, .bool true) :: (82, .tuple []) :: (81, .tuple []) :: (80, .tuple []) :: (79, .tuple []) :: (78, .bool true) :: E22)
         refine ok_run 13 (p' := g61p13) (env' := E23) (H' := (mkH [])) (by kernel_rfl) ?_
         refine ok_keep [1, 8, 9, 11, 90] (env' := [(1, .int .i64 a1), (8, .int .i64 z5.2.2), (9, .int .i64 z7.2.1), (11, .int .i64 (fwrap .i64 (z5.1 + z7.2.2))), (90, .bool true)]) (by kernel_rfl) ?_
         exact hj8 (z7.2.1, fwrap .i64 (z5.1 + z7.2.2), true)
        ·refine ok_run 2 (p' := (atN 21 (ctl1 g61p12))) (env' := ((80, .int .i64 (fwrap .i64 (z5.1 + z7.2.2))) :: (79, .str a0) :: (78, .bool false) :: E22)) (H' := (mkH [])) (by kernel_rfl) ?_
         refine ok_chk (fun (x3_21 : Int) => (.int .u8 x3_21, (mkH []))) (atN 22 (ctl1 g61p12)) (fun x3_21 => ((81, .int .u8 x3_21) :: (80, .int .i64 (fwrap .i64 (z5.1 + z7.2.2))) :: (79, .str a0) :: (78, .bool false) :: E22)) (idxH (by kernel_rfl)) (fun _ => by kernel_rfl) (fun x3_21 hx3_21 => ?_)
         let E24 : Env := ((86, .bool (!decide (x3_21 = 125))) :: (85, .bool (!decide (x3_21 = 125))) :: (84, .bool (!decide (x3_21 = 125))) :: (83, .bool (!decide (x3_21 = 125))) :: (82, .bool (!decide (x3_21 = 125))) :: (81, .int .u8 x3_21) :: (80, .int .i64 (fwrap .i64 (z5.1 + z7.2.2))) :: (79, .str a0) :: (78, .bool false) :: E22)
         refine ok_run 5 (p' := (atN 27 (ctl1 g61p12))) (env' := E24) (H' := (mkH [])) (by kernel_rfl) ?_
         refine ok_split 86 (b := !decide (x3_21 = 125)) (by kernel_rfl) (fun hb => ?_) (fun hb => ?_)
         ·let E25 : Env := ((90, .bool true) :: (89, .tuple []) :: (88, .tuple []) :: (87, .tuple []) :: (86, .bool true) :: E24)
          refine ok_run 5 (p' := g61p13) (env' := E25) (H' := (mkH [])) (by kernel_rfl) ?_
          refine ok_keep [1, 8, 9, 11, 90] (env' := [(1, .int .i64 a1), (8, .int .i64 z5.2.2), (9, .int .i64 z7.2.1), (11, .int .i64 (fwrap .i64 (z5.1 + z7.2.2))), (90, .bool true)]) (by kernel_rfl) ?_
          exact hj8 (z7.2.1, fwrap .i64 (z5.1 + z7.2.2), true)
         ·refine ok_run 1 (p' := (atN 28 (ctl1 g61p12))) (env' := ((87, .int .i64 z7.2.1) :: (86, .bool false) :: E24)) (H' := (mkH [])) (by kernel_rfl) ?_
          refine ok_call (fun (x3_28 : (List Nat)) => .str x3_28) (atN 29 (ctl1 g61p12)) (fun x3_28 => ((88, .str x3_28) :: (87, .int .i64 z7.2.1) :: (86, .bool false) :: E24)) (fi := 67) (args := [.int .i64 z7.2.1]) (by kernel_rfl) (by kernel_rfl) (fun _ => by kernel_rfl) (fun r h => g67_ok k z7.2.1 r h) (fun _ => by kernel_rfl) (fun x3_28 hx3_28 => ?_)
          let E26 : Env := ((90, .bool (eqL x3_28 [])) :: (89, .bool (eqL x3_28 [])) :: (88, .str x3_28) :: (87, .int .i64 z7.2.1) :: (86, .bool false) :: E24)
          refine ok_run 3 (p' := g61p13) (env' := E26) (H' := (mkH [])) (by kernel_rfl) ?_
          refine ok_keep [1, 8, 9, 11, 90] (env' := [(1, .int .i64 a1), (8, .int .i64 z5.2.2), (9, .int .i64 z7.2.1), (11, .int .i64 (fwrap .i64 (z5.1 + z7.2.2))), (90, .bool (eqL x3_28 []))]) (by kernel_rfl) ?_
          exact hj8 (z7.2.1, fwrap .i64 (z5.1 + z7.2.2), eqL x3_28 [])
       ·let E27 : Env := ((87, .int .i64 z7.2.1) :: (86, .bool false) :: (85, .bool false) :: (84, .bool false) :: (83, .tuple []) :: (82, .tuple []) :: (81, .tuple []) :: (80, .tuple []) :: (79, .tuple []) :: (78, .tuple []) :: (77, .tuple []) :: (76, .tuple []) :: (75, .tuple []) :: (74, .tuple []) :: (73, .bool false) :: (73, .bool (decide (z5.2.2 = 1))) :: (72, .bool (decide (z5.2.2 = 1))) :: (71, .int .i64 z5.2.2) :: (70, .bool false) :: E20)
        refine ok_run 14 (p' := (atN 28 (ctl1 g61p12))) (env' := E27) (H' := (mkH [])) (by kernel_rfl) ?_
        refine ok_call (fun (x3_28 : (List Nat)) => .str x3_28) (atN 29 (ctl1 g61p12)) (fun x3_28 => ((88, .str x3_28) :: E27)) (fi := 67) (args := [.int .i64 z7.2.1]) (by kernel_rfl) (by kernel_rfl) (fun _ => by kernel_rfl) (fun r h => g67_ok k z7.2.1 r h) (fun _ => by kernel_rfl) (fun x3_28 hx3_28 => ?_)
        refine ok_run 3 (p' := g61p13) (env' := ((90, .bool (eqL x3_28 [])) :: (89, .bool (eqL x3_28 [])) :: (88, .str x3_28) :: E27)) (H' := (mkH [])) (by kernel_rfl) ?_
        refine ok_keep [1, 8, 9, 11, 90] (env' := [(1, .int .i64 a1), (8, .int .i64 z5.2.2), (9, .int .i64 z7.2.1), (11, .int .i64 (fwrap .i64 (z5.1 + z7.2.2))), (90, .bool (eqL x3_28 []))]) (by kernel_rfl) ?_
        exact hj8 (z7.2.1, fwrap .i64 (z5.1 + z7.2.2), eqL x3_28 [])
  ·refine ok_split 29 (b := decide (y6_1 < z5.2.1)) (by kernel_rfl) (fun hb => ?_) (fun hb => ?_)
   ·let E28 : Env := ((37, .bool (decide (fwrap .i64 (z5.1 + y6_1) < (a0.length : Int)))) :: (36, .bool (decide (fwrap .i64 (z5.1 + y6_1) < (a0.length : Int)))) :: (35, .bool (decide (fwrap .i64 (z5.1 + y6_1) < (a0.length : Int)))) :: (34, .int .i64 (a0.length : Int)) :: (33, .str a0) :: (32, .int .i64 (fwrap .i64 (z5.1 + y6_1))) :: (31, .int .i64 y6_1) :: (30, .int .i64 z5.1) :: (29, .bool true) :: E3)
    refine ok_run 8 (p' := (atN 12 (ctl1 g61p7))) (env' := E28) (H' := (mkH [])) (by kernel_rfl) ?_
    refine ok_split 37 (b := decide (fwrap .i64 (z5.1 + y6_1) < (a0.length : Int))) (by kernel_rfl) (fun hb => ?_) (fun hb => ?_)
    ·let E29 : Env := ((41, .int .i64 (fwrap .i64 (z5.1 + y6_1))) :: (40, .int .i64 y6_1) :: (39, .int .i64 z5.1) :: (38, .str a0) :: (37, .bool true) :: E28)
     refine ok_run 4 (p' := (atN 16 (ctl1 g61p7))) (env' := E29) (H' := (mkH [])) (by kernel_rfl) ?_
     refine ok_chk (fun (x1_16 : Int) => (.int .u8 x1_16, (mkH []))) (atN 17 (ctl1 g61p7)) (fun x1_16 => ((42, .int .u8 x1_16) :: E29)) (idxH (by kernel_rfl)) (fun _ => by kernel_rfl) (fun x1_16 hx1_16 => ?_)
     refine ok_call (fun (x1_17 : Int) => .int .i64 x1_17) (atN 18 (ctl1 g61p7)) (fun x1_17 => ((43, .int .i64 x1_17) :: (42, .int .u8 x1_16) :: E29)) (fi := 63) (args := [.int .u8 x1_16]) (by kernel_rfl) (by kernel_rfl) (fun _ => by kernel_rfl) (fun r h => g63_ok k x1_16 r h) (fun _ => by kernel_rfl) (fun x1_17 hx1_17 => ?_)
     refine ok_run 3 (p' := g61p8) (env' := ((45, .bool (decide (x1_17 < 16))) :: (44, .bool (decide (x1_17 < 16))) :: (43, .int .i64 x1_17) :: (42, .int .u8 x1_16) :: E29)) (H' := (mkH [])) (by kernel_rfl) ?_
     refine ok_keep [0, 1, 6, 7, 8, 9, 10, 45] (env' := [(0, .str a0), (1, .int .i64 a1), (6, .int .i64 z5.1), (7, .int .i64 z5.2.1), (8, .int .i64 z5.2.2), (9, .int .i64 y6_0), (10, .int .i64 y6_1), (45, .bool (decide (x1_17 < 16)))]) (by kernel_rfl) ?_
     exact hj7 (decide (x1_17 < 16), y6_0, y6_1)
    ·let E30 : Env := ((45, .bool false) :: (44, .tuple []) :: (43, .tuple []) :: (42, .tuple []) :: (41, .tuple []) :: (40, .tuple []) :: (39, .tuple []) :: (38, .tuple []) :: (37, .bool false) :: E28)
     refine ok_run 9 (p' := g61p8) (env' := E30) (H' := (mkH [])) (by kernel_rfl) ?_
     refine ok_keep [0, 1, 6, 7, 8, 9, 10, 45] (env' := [(0, .str a0), (1, .int .i64 a1), (6, .int .i64 z5.1), (7, .int .i64 z5.2.1), (8, .int .i64 z5.2.2), (9, .int .i64 y6_0), (10, .int .i64 y6_1), (45, .bool false)]) (by kernel_rfl) ?_
     exact hj7 (false, y6_0, y6_1)
   ·let E31 : Env := ((45, .bool false) :: (44, .tuple []) :: (43, .tuple []) :: (42, .tuple []) :: (41, .tuple []) :: (40, .tuple []) :: (39, .tuple []) :: (38, .tuple []) :: (37, .bool false) :: (36, .bool false) :: (35, .tuple []) :: (34, .tuple []) :: (33, .tuple []) :: (32, .tuple []) :: (31, .tuple []) :: (30, .tuple []) :: (29, .bool false) :: E3)
    refine ok_run 17 (p' := g61p8) (env' := E31) (H' := (mkH [])) (by kernel_rfl) ?_
    refine ok_keep [0, 1, 6, 7, 8, 9, 10, 45] (env' := [(0, .str a0), (1, .int .i64 a1), (6, .int .i64 z5.1), (7, .int .i64 z5.2.1), (8, .int .i64 z5.2.2), (9, .int .i64 y6_0), (10, .int .i64 y6_1), (45, .bool false)]) (by kernel_rfl) ?_
    exact hj7 (false, y6_0, y6_1)
def g61 (k : Nat) (a0 : (List Nat)) (a1 : Int) : Option (Int × Int) :=
 jn (fun (z4 : Bool) => jn (fun (z5 : Int × Int × Int) => g61_l6 k a0 a1 z5 k 0 0) (fun j5 => if z4 then (j5 (fwrap .i64 (fwrap .i64 (a1 + 2) + 1), 6, 1)) else (j5 (fwrap .i64 (a1 + 2), 2, 0)))) (fun j4 => if (decide (fwrap .i64 (a1 + 2) < (a0.length : Int))) then ((nthS a0 (fwrap .i64 (a1 + 2))).bind fun x0_7 => j4 (decide (x0_7 = 123))) else (j4 false))
theorem g61_ok (k : Nat) (a0 : (List Nat)) (a1 : Int) (r : (Int × Int)) (h : g61 k a0 a1 = some r) : PureOk Try.prog 61 [.str a0, .int .i64 a1] (.tuple [.int .i64 r.1, .int .i64 r.2]) := by
 refine pure_of X61 (fun _ => rfl) Try.func61 (by decide +kernel) (by kernel_rfl) (t := g61 k a0 a1) ?_ h
 unfold g61
 refine ok_env (env' := [(0, .str a0), (1, .int .i64 a1)]) (by kernel_rfl) ?_
 let E1 : Env := [(18, .bool (decide (fwrap .i64 (a1 + 2) < (a0.length : Int)))), (17, .bool (decide (fwrap .i64 (a1 + 2) < (a0.length : Int)))), (16, .int .i64 (a0.length : Int)), (15, .str a0), (14, .int .i64 (fwrap .i64 (a1 + 2))), (8, .int .i64 0), (7, .int .i64 2), (6, .int .i64 (fwrap .i64 (a1 + 2))), (13, .int .i64 (fwrap .i64 (a1 + 2))), (12, .int .i64 a1), (5, .int .i64 0), (4, .int .i64 0), (0, .str a0), (1, .int .i64 a1)]
 refine ok_run 21 (p' := (atN 5 (ctl1 g61p2))) (env' := E1) (H' := (mkH [])) (by kernel_rfl) ?_
 refine ok_jn (f := fun (z4 : Bool) => jn (fun (z5 : Int × Int × Int) => g61_l6 k a0 a1 z5 k 0 0) (fun j5 => if z4 then (j5 (fwrap .i64 (fwrap .i64 (a1 + 2) + 1), 6, 1)) else (j5 (fwrap .i64 (a1 + 2), 2, 0)))) g61p3 (fun (z4 : Bool) => [(0, .str a0), (1, .int .i64 a1), (6, .int .i64 (fwrap .i64 (a1 + 2))), (7, .int .i64 2), (8, .int .i64 0), (23, .bool z4)]) (fun (z4 : Bool) => (mkH [])) (fun z4 => ?_) (fun j4 hj4 => ?_)
 ·refine ok_jn (f := fun (z5 : Int × Int × Int) => g61_l6 k a0 a1 z5 k 0 0) g61p5 (fun (z5 : Int × Int × Int) => [(0, .str a0), (1, .int .i64 a1), (6, .int .i64 z5.1), (7, .int .i64 z5.2.1), (8, .int .i64 z5.2.2)]) (fun (z5 : Int × Int × Int) => (mkH [])) (fun z5 => ?_) (fun j5 hj5 => ?_)
  ·let E2 : Env := [(10, .int .i64 0), (9, .int .i64 0), (0, .str a0), (1, .int .i64 a1), (6, .int .i64 z5.1), (7, .int .i64 z5.2.1), (8, .int .i64 z5.2.2)]
   refine ok_run 7 (p' := g61p6) (env' := E2) (H' := (mkH [])) (by kernel_rfl) ?_
   refine ok_keep [0, 1, 6, 7, 8, 9, 10] (env' := [(0, .str a0), (1, .int .i64 a1), (6, .int .i64 z5.1), (7, .int .i64 z5.2.1), (8, .int .i64 z5.2.2), (9, .int .i64 0), (10, .int .i64 0)]) (by kernel_rfl) ?_
   exact (g61_l6_ok k a0 a1 z5 k) 0 0
  ·refine ok_split 23 (b := z4) (by kernel_rfl) (fun hb => ?_) (fun hb => ?_)
   ·let E32 : Env := [(8, .int .i64 1), (7, .int .i64 6), (6, .int .i64 (fwrap .i64 (fwrap .i64 (a1 + 2) + 1))), (25, .int .i64 (fwrap .i64 (fwrap .i64 (a1 + 2) + 1))), (24, .int .i64 (fwrap .i64 (a1 + 2))), (23, .bool true), (0, .str a0), (1, .int .i64 a1), (6, .int .i64 (fwrap .i64 (a1 + 2))), (7, .int .i64 2), (8, .int .i64 0), (23, .bool z4)]
    refine ok_run 9 (p' := g61p5) (env' := E32) (H' := (mkH [])) (by kernel_rfl) ?_
    refine ok_keep [0, 1, 6, 7, 8] (env' := [(0, .str a0), (1, .int .i64 a1), (6, .int .i64 (fwrap .i64 (fwrap .i64 (a1 + 2) + 1))), (7, .int .i64 6), (8, .int .i64 1)]) (by kernel_rfl) ?_
    exact hj5 (fwrap .i64 (fwrap .i64 (a1 + 2) + 1), 6, 1)
   ·let E33 : Env := [(23, .bool false), (0, .str a0), (1, .int .i64 a1), (6, .int .i64 (fwrap .i64 (a1 + 2))), (7, .int .i64 2), (8, .int .i64 0), (23, .bool z4)]
    refine ok_run 3 (p' := g61p5) (env' := E33) (H' := (mkH [])) (by kernel_rfl) ?_
    refine ok_keep [0, 1, 6, 7, 8] (env' := [(0, .str a0), (1, .int .i64 a1), (6, .int .i64 (fwrap .i64 (a1 + 2))), (7, .int .i64 2), (8, .int .i64 0)]) (by kernel_rfl) ?_
    exact hj5 (fwrap .i64 (a1 + 2), 2, 0)
 ·refine ok_split 18 (b := decide (fwrap .i64 (a1 + 2) < (a0.length : Int))) (by kernel_rfl) (fun hb => ?_) (fun hb => ?_)
  ·refine ok_run 2 (p' := (atN 7 (ctl1 g61p2))) (env' := ((20, .int .i64 (fwrap .i64 (a1 + 2))) :: (19, .str a0) :: (18, .bool true) :: E1)) (H' := (mkH [])) (by kernel_rfl) ?_
   refine ok_chk (fun (x0_7 : Int) => (.int .u8 x0_7, (mkH []))) (atN 8 (ctl1 g61p2)) (fun x0_7 => ((21, .int .u8 x0_7) :: (20, .int .i64 (fwrap .i64 (a1 + 2))) :: (19, .str a0) :: (18, .bool true) :: E1)) (idxH (by kernel_rfl)) (fun _ => by kernel_rfl) (fun x0_7 hx0_7 => ?_)
   let E34 : Env := ((23, .bool (decide (x0_7 = 123))) :: (22, .bool (decide (x0_7 = 123))) :: (21, .int .u8 x0_7) :: (20, .int .i64 (fwrap .i64 (a1 + 2))) :: (19, .str a0) :: (18, .bool true) :: E1)
   refine ok_run 3 (p' := g61p3) (env' := E34) (H' := (mkH [])) (by kernel_rfl) ?_
   refine ok_keep [0, 1, 6, 7, 8, 23] (env' := [(0, .str a0), (1, .int .i64 a1), (6, .int .i64 (fwrap .i64 (a1 + 2))), (7, .int .i64 2), (8, .int .i64 0), (23, .bool (decide (x0_7 = 123)))]) (by kernel_rfl) ?_
   exact hj4 (decide (x0_7 = 123))
  ·let E35 : Env := ((23, .bool false) :: (22, .tuple []) :: (21, .tuple []) :: (20, .tuple []) :: (19, .tuple []) :: (18, .bool false) :: E1)
   refine ok_run 6 (p' := g61p3) (env' := E35) (H' := (mkH [])) (by kernel_rfl) ?_
   refine ok_keep [0, 1, 6, 7, 8, 23] (env' := [(0, .str a0), (1, .int .i64 a1), (6, .int .i64 (fwrap .i64 (a1 + 2))), (7, .int .i64 2), (8, .int .i64 0), (23, .bool false)]) (by kernel_rfl) ?_
   exact hj4 false
end
end Go.Proofs.Ytokcjgjgojlhbaa.Am
set_option maxRecDepth 100000
set_option linter.unusedVariables false
namespace Go.Proofs.Ytokcjgjgojlhbaa.Am
noncomputable section
open Go
def X62 : Fx (Int × Int) := ⟨Try.prog, cx, Try.f62, fun r => .tuple [.int .i64 r.1, .int .i64 r.2], 0, fun _ => H0, cxTi, cxOrd⟩
def g62p0 : Pt := nav [0] (bodyAt Try.f62)
def g62p1 : Pt := nav [0, 0, 0, 0] g62p0
def g62p2 : Pt := nav [0, 0] g62p1
def g62p4 : Pt := nav [2, 0, 0] g62p2
def g62p6 : Pt := nav [0, 0, 0, 0] g62p4
def g62p7 : Pt := nav [0, 0] g62p6
def g62 (k : Nat) (a0 : (List Nat)) (a1 : Int) : Option (Int × Int) :=
 if (decide ((a0.length : Int) ≤ fwrap .i64 (a1 + 2))) then (some (((-1) : Int), (0 : Int))) else ((nthS a0 (fwrap .i64 (a1 + 2))).bind fun x0_3 => jn (fun (z1 : Bool) => if z1 then (some (((-1) : Int), (0 : Int))) else (some (fwrap .i64 (andI .u8 x0_3 31), (3 : Int)))) (fun j1 => if (decide (x0_3 < 64)) then (j1 true) else (if (decide (95 < x0_3)) then (if (decide (x0_3 < 97)) then (j1 true) else (j1 (decide (122 < x0_3)))) else (j1 false))))
theorem g62_ok (k : Nat) (a0 : (List Nat)) (a1 : Int) (r : (Int × Int)) (h : g62 k a0 a1 = some r) : PureOk Try.prog 62 [.str a0, .int .i64 a1] (.tuple [.int .i64 r.1, .int .i64 r.2]) := by
 refine pure_of X62 (fun _ => rfl) Try.func62 (by decide +kernel) (by kernel_rfl) (t := g62 k a0 a1) ?_ h
 unfold g62
 refine ok_env (env' := [(0, .str a0), (1, .int .i64 a1)]) (by kernel_rfl) ?_
 let E1 : Env := [(11, .bool (decide ((a0.length : Int) ≤ fwrap .i64 (a1 + 2)))), (10, .int .i64 (a0.length : Int)), (9, .str a0), (8, .int .i64 (fwrap .i64 (a1 + 2))), (7, .int .i64 a1), (5, .int .i64 0), (4, .int .i64 0), (0, .str a0), (1, .int .i64 a1)]
 refine ok_run 14 (p' := g62p2) (env' := E1) (H' := (mkH [])) (by kernel_rfl) ?_
 refine ok_split 11 (b := decide ((a0.length : Int) ≤ fwrap .i64 (a1 + 2))) (by kernel_rfl) (fun hb => ?_) (fun hb => ?_)
 ·refine ok_run 7 (p' := .fin) (env' := ((5, .int .i64 0) :: (4, .int .i64 (-1)) :: (11, .bool true) :: E1)) (H' := (mkH [])) (by kernel_rfl) ?_
  exact ok_ret (r := (((-1) : Int), (0 : Int))) (xs := [.int .i64 (-1), .int .i64 0]) (v := .tuple [.int .i64 (-1), .int .i64 0]) (by kernel_rfl) (by kernel_rfl) (by kernel_rfl) (.pures (by kernel_rfl)) (by kernel_rfl)
 ·refine ok_run 7 (p' := (atN 3 (ctl1 g62p4))) (env' := ((14, .int .i64 (fwrap .i64 (a1 + 2))) :: (13, .int .i64 a1) :: (12, .str a0) :: (11, .bool false) :: E1)) (H' := (mkH [])) (by kernel_rfl) ?_
  refine ok_chk (fun (x0_3 : Int) => (.int .u8 x0_3, (mkH []))) (atN 4 (ctl1 g62p4)) (fun x0_3 => ((15, .int .u8 x0_3) :: (14, .int .i64 (fwrap .i64 (a1 + 2))) :: (13, .int .i64 a1) :: (12, .str a0) :: (11, .bool false) :: E1)) (idxH (by kernel_rfl)) (fun _ => by kernel_rfl) (fun x0_3 hx0_3 => ?_)
  let E2 : Env := ((6, .int .u8 x0_3) :: (15, .int .u8 x0_3) :: (14, .int .i64 (fwrap .i64 (a1 + 2))) :: (13, .int .i64 a1) :: (12, .str a0) :: (11, .bool false) :: E1)
  refine ok_run 4 (p' := g62p6) (env' := E2) (H' := (mkH [])) (by kernel_rfl) ?_
  refine ok_keep [6] (env' := [(6, .int .u8 x0_3)]) (by kernel_rfl) ?_
  refine ok_run 4 (p' := (atN 3 (ctl1 g62p6))) (env' := [(18, .bool (decide (x0_3 < 64))), (17, .bool (decide (x0_3 < 64))), (16, .int .u8 x0_3), (6, .int .u8 x0_3)]) (H' := (mkH [])) (by kernel_rfl) ?_
  refine ok_jn (f := fun (z1 : Bool) => if z1 then (some (((-1) : Int), (0 : Int))) else (some (fwrap .i64 (andI .u8 x0_3 31), (3 : Int)))) g62p7 (fun (z1 : Bool) => [(6, .int .u8 x0_3), (29, .bool z1)]) (fun (z1 : Bool) => (mkH [])) (fun z1 => ?_) (fun j1 hj1 => ?_)
  ·refine ok_split 29 (b := z1) (by kernel_rfl) (fun hb => ?_) (fun hb => ?_)
   ·let E3 : Env := [(5, .int .i64 0), (4, .int .i64 (-1)), (29, .bool true), (6, .int .u8 x0_3), (29, .bool z1)]
    refine ok_run 7 (p' := .fin) (env' := E3) (H' := (mkH [])) (by kernel_rfl) ?_
    exact ok_ret (r := (((-1) : Int), (0 : Int))) (xs := [.int .i64 (-1), .int .i64 0]) (v := .tuple [.int .i64 (-1), .int .i64 0]) (by kernel_rfl) (by kernel_rfl) (by kernel_rfl) (.pures (by kernel_rfl)) (by kernel_rfl)
   ·let E4 : Env := [(5, .int .i64 3), (4, .int .i64 (fwrap .i64 (andI .u8 x0_3 31))), (32, .int .i64 (fwrap .i64 (andI .u8 x0_3 31))), (31, .int .u8 (andI .u8 x0_3 31)), (30, .int .u8 x0_3), (29, .bool false), (6, .int .u8 x0_3), (29, .bool z1)]
    refine ok_run 11 (p' := .fin) (env' := E4) (H' := (mkH [])) (by kernel_rfl) ?_
    exact ok_ret (r := (fwrap .i64 (andI .u8 x0_3 31), (3 : Int))) (xs := [.int .i64 (fwrap .i64 (andI .u8 x0_3 31)), .int .i64 3]) (v := .tuple [.int .i64 (fwrap .i64 (andI .u8 x0_3 31)), .int .i64 3]) (by kernel_rfl) (by kernel_rfl) (by kernel_rfl) (.pures (by kernel_rfl)) (by kernel_rfl)
  ·refine ok_split 18 (b := decide (x0_3 < 64)) (by kernel_rfl) (fun hb => ?_) (fun hb => ?_)
   ·let E5 : Env := [(29, .bool true), (28, .tuple []), (27, .tuple []), (26, .tuple []), (25, .tuple []), (24, .tuple []), (23, .tuple []), (22, .tuple []), (21, .tuple []), (20, .tuple []), (19, .tuple []), (18, .bool true), (18, .bool (decide (x0_3 < 64))), (17, .bool (decide (x0_3 < 64))), (16, .int .u8 x0_3), (6, .int .u8 x0_3)]
    refine ok_run 12 (p' := g62p7) (env' := E5) (H' := (mkH [])) (by kernel_rfl) ?_
    refine ok_keep [6, 29] (env' := [(6, .int .u8 x0_3), (29, .bool true)]) (by kernel_rfl) ?_
    exact hj1 true
   ·let E6 : Env := [(21, .bool (decide (95 < x0_3))), (20, .bool (decide (95 < x0_3))), (19, .int .u8 x0_3), (18, .bool false), (18, .bool (decide (x0_3 < 64))), (17, .bool (decide (x0_3 < 64))), (16, .int .u8 x0_3), (6, .int .u8 x0_3)]
    refine ok_run 3 (p' := (atN 6 (ctl1 g62p6))) (env' := E6) (H' := (mkH [])) (by kernel_rfl) ?_
    refine ok_split 21 (b := decide (95 < x0_3)) (by kernel_rfl) (fun hb => ?_) (fun hb => ?_)
    ·refine ok_run 3 (p' := (atN 9 (ctl1 g62p6))) (env' := ((24, .bool (decide (x0_3 < 97))) :: (23, .bool (decide (x0_3 < 97))) :: (22, .int .u8 x0_3) :: (21, .bool true) :: E6)) (H' := (mkH [])) (by kernel_rfl) ?_
     refine ok_split 24 (b := decide (x0_3 < 97)) (by kernel_rfl) (fun hb => ?_) (fun hb => ?_)
     ·let E7 : Env := ((29, .bool true) :: (28, .bool true) :: (27, .bool true) :: (26, .tuple []) :: (25, .tuple []) :: (24, .bool true) :: (24, .bool (decide (x0_3 < 97))) :: (23, .bool (decide (x0_3 < 97))) :: (22, .int .u8 x0_3) :: (21, .bool true) :: E6)
      refine ok_run 6 (p' := g62p7) (env' := E7) (H' := (mkH [])) (by kernel_rfl) ?_
      refine ok_keep [6, 29] (env' := [(6, .int .u8 x0_3), (29, .bool true)]) (by kernel_rfl) ?_
      exact hj1 true
     ·let E8 : Env := ((29, .bool (decide (122 < x0_3))) :: (28, .bool (decide (122 < x0_3))) :: (27, .bool (decide (122 < x0_3))) :: (26, .bool (decide (122 < x0_3))) :: (25, .int .u8 x0_3) :: (24, .bool false) :: (24, .bool (decide (x0_3 < 97))) :: (23, .bool (decide (x0_3 < 97))) :: (22, .int .u8 x0_3) :: (21, .bool true) :: E6)
      refine ok_run 6 (p' := g62p7) (env' := E8) (H' := (mkH [])) (by kernel_rfl) ?_
      refine ok_keep [6, 29] (env' := [(6, .int .u8 x0_3), (29, .bool (decide (122 < x0_3)))]) (by kernel_rfl) ?_
      exact hj1 (decide (122 < x0_3))
    ·let E9 : Env := ((29, .bool false) :: (28, .bool false) :: (27, .tuple []) :: (26, .tuple []) :: (25, .tuple []) :: (24, .tuple []) :: (23, .tuple []) :: (22, .tuple []) :: (21, .bool false) :: E6)
     refine ok_run 9 (p' := g62p7) (env' := E9) (H' := (mkH [])) (by kernel_rfl) ?_
     refine ok_keep [6, 29] (env' := [(6, .int .u8 x0_3), (29, .bool false)]) (by kernel_rfl) ?_
     exact hj1 false
end
end Go.Proofs.Ytokcjgjgojlhbaa.Am
set_option maxRecDepth 100000
set_option linter.unusedVariables false
namespace Go.Proofs.Ytokcjgjgojlhbaa.Am
noncomputable section
open Go
def X52 : Fx (Int × Int) := ⟨Try.prog, cx, Try.f52, fun r => .tuple [.int .i64 r.1, .int .i64 r.2], 0, fun _ => H0, cxTi, cxOrd⟩
def g52p0 : Pt := nav [0] (bodyAt Try.f52)
def g52p1 : Pt := nav [0, 0, 0, 0] g52p0
def g52p2 : Pt := nav [0, 0] g52p1
def g52p4 : Pt := nav [2, 0, 0] g52p2
def g52p6 : Pt := nav [0, 0, 0, 0, 0] g52p4
def g52p7 : Pt := nav [0, 0] g52p6
def g52p8 : Pt := nav [1, 0] g52p7
def g52p9 : Pt := nav [2, 0] g52p7
def g52p10 : Pt := nav [0, 0] g52p9
def g52p11 : Pt := nav [1, 0] g52p10
def g52p12 : Pt := nav [2, 0] g52p10
def g52p13 : Pt := nav [0, 0] g52p12
def g52p14 : Pt := nav [1, 0] g52p13
def g52p15 : Pt := nav [2, 0, 0, 0] g52p13
def g52p16 : Pt := nav [0, 0, 0, 0, 0] g52p14
def g52p17 : Pt := nav [0, 0, 0, 0] g52p15
def g52p18 : Pt := nav [0, 0, 0] g52p16
def g52p19 : Pt := nav [0, 0] g52p17
def g52p20 : Pt := nav [0, 0] g52p18
def g52p21 : Pt := nav [0, 0, 0] g52p19
def g52p22 : Pt := nav [1, 0, 0, 0] g52p20
def g52p24 : Pt := nav [1, 0, 0, 0] g52p21
def g52p25 : Pt := nav [2, 0, 0] g52p21
def g52p26 : Pt := nav [0, 0] g52p22
def g52p27 : Pt := nav [0, 0, 0] g52p24
def g52p28 : Pt := nav [0, 0, 0, 0] g52p25
def g52p29 : Pt := nav [0, 0] g52p27
def g52p30 : Pt := nav [0, 0] g52p28
def g52_l9 (k : Nat)  (a0 : (List Nat)) (a1 : Int) (n : Nat) : Int → Int → Option (Int × Int) :=
 Nat.rec (motive := fun _ => Int → Int → Option (Int × Int)) (fun _ _ => none) (fun _ ih => fun (y9_0 : Int) (y9_1 : Int) => jn (fun (z10 : Bool × Int × Int) => if z10.1 then ((nthS a0 (fwrap .i64 (a1 + z10.2.1))).bind fun x6_6 => (g63 k x6_6).bind fun x6_7 => ih (orI .i64 (shlC .i64 z10.2.2 3) x6_7) (fwrap .i64 (z10.2.1 + 1))) else (some (z10.2.2, z10.2.1))) (fun j10 => if (decide (y9_1 < 4)) then (if (decide (fwrap .i64 (a1 + y9_1) < (a0.length : Int))) then ((nthS a0 (fwrap .i64 (a1 + y9_1))).bind fun x5_15 => (g63 k x5_15).bind fun x5_16 => j10 (decide (x5_16 < 8), y9_1, y9_0)) else (j10 (false, y9_1, y9_0))) else (j10 (false, y9_1, y9_0)))) n
theorem g52_l9_s (k : Nat)  (a0 : (List Nat)) (a1 : Int) (n : Nat) (y9_0 : Int) (y9_1 : Int) : g52_l9 k a0 a1 (n + 1) y9_0 y9_1 = (jn (fun (z10 : Bool × Int × Int) => if z10.1 then ((nthS a0 (fwrap .i64 (a1 + z10.2.1))).bind fun x6_6 => (g63 k x6_6).bind fun x6_7 => (g52_l9 k a0 a1 n) (orI .i64 (shlC .i64 z10.2.2 3) x6_7) (fwrap .i64 (z10.2.1 + 1))) else (some (z10.2.2, z10.2.1))) (fun j10 => if (decide (y9_1 < 4)) then (if (decide (fwrap .i64 (a1 + y9_1) < (a0.length : Int))) then ((nthS a0 (fwrap .i64 (a1 + y9_1))).bind fun x5_15 => (g63 k x5_15).bind fun x5_16 => j10 (decide (x5_16 < 8), y9_1, y9_0)) else (j10 (false, y9_1, y9_0))) else (j10 (false, y9_1, y9_0)))) := rfl
theorem g52_l9_ok (k : Nat)  (a0 : (List Nat)) (a1 : Int)  : ∀ (n : Nat) (y9_0 : Int) (y9_1 : Int), Ok X52 g52p16 [(0, .str a0), (1, .int .i64 a1), (7, .int .i64 y9_0), (8, .int .i64 y9_1)] (mkH []) (g52_l9 k a0 a1 n y9_0 y9_1)
 | 0, _, _ => ok_none
 | n + 1, y9_0, y9_1 => by
  have ih := g52_l9_ok k a0 a1 n
  rw [g52_l9_s]
  refine ok_ent (p' := nav [0] g52p16) (by kernel_rfl) ?_
  let E10 : Env := [(63, .bool (decide (y9_1 < 4))), (62, .bool (decide (y9_1 < 4))), (61, .int .i64 y9_1), (0, .str a0), (1, .int .i64 a1), (7, .int .i64 y9_0), (8, .int .i64 y9_1)]
  refine ok_run 6 (p' := (atN 3 (ctl1 g52p18))) (env' := E10) (H' := (mkH [])) (by kernel_rfl) ?_
  refine ok_jn (f := fun (z10 : Bool × Int × Int) => if z10.1 then ((nthS a0 (fwrap .i64 (a1 + z10.2.1))).bind fun x6_6 => (g63 k x6_6).bind fun x6_7 => (g52_l9 k a0 a1 n) (orI .i64 (shlC .i64 z10.2.2 3) x6_7) (fwrap .i64 (z10.2.1 + 1))) else (some (z10.2.2, z10.2.1))) g52p20 (fun (z10 : Bool × Int × Int) => [(0, .str a0), (1, .int .i64 a1), (7, .int .i64 z10.2.2), (8, .int .i64 z10.2.1), (79, .bool z10.1)]) (fun (z10 : Bool × Int × Int) => (mkH [])) (fun z10 => ?_) (fun j10 hj10 => ?_)
  ·refine ok_split 79 (b := z10.1) (by kernel_rfl) (fun hb => ?_) (fun hb => ?_)
   ·let E11 : Env := [(85, .int .i64 (fwrap .i64 (a1 + z10.2.1))), (84, .int .i64 z10.2.1), (83, .int .i64 a1), (82, .str a0), (81, .int .i64 (shlC .i64 z10.2.2 3)), (80, .int .i64 z10.2.2), (79, .bool true), (0, .str a0), (1, .int .i64 a1), (7, .int .i64 z10.2.2), (8, .int .i64 z10.2.1), (79, .bool z10.1)]
    refine ok_run 11 (p' := (atN 6 (ctl1 g52p22))) (env' := E11) (H' := (mkH [])) (by kernel_rfl) ?_
    refine ok_chk (fun (x6_6 : Int) => (.int .u8 x6_6, (mkH []))) (atN 7 (ctl1 g52p22)) (fun x6_6 => ((86, .int .u8 x6_6) :: E11)) (idxH (by kernel_rfl)) (fun _ => by kernel_rfl) (fun x6_6 hx6_6 => ?_)
    refine ok_call (fun (x6_7 : Int) => .int .i64 x6_7) (atN 8 (ctl1 g52p22)) (fun x6_7 => ((87, .int .i64 x6_7) :: (86, .int .u8 x6_6) :: E11)) (fi := 63) (args := [.int .u8 x6_6]) (by kernel_rfl) (by kernel_rfl) (fun _ => by kernel_rfl) (fun r h => g63_ok k x6_6 r h) (fun _ => by kernel_rfl) (fun x6_7 hx6_7 => ?_)
    refine ok_run 3 (p' := g52p26) (env' := ((7, .int .i64 (orI .i64 (shlC .i64 z10.2.2 3) x6_7)) :: (88, .int .i64 (orI .i64 (shlC .i64 z10.2.2 3) x6_7)) :: (87, .int .i64 x6_7) :: (86, .int .u8 x6_6) :: E11)) (H' := (mkH [])) (by kernel_rfl) ?_
    refine ok_keep [0, 1, 7, 8] (env' := [(0, .str a0), (1, .int .i64 a1), (7, .int .i64 (orI .i64 (shlC .i64 z10.2.2 3) x6_7)), (8, .int .i64 z10.2.1)]) (by kernel_rfl) ?_
    let E12 : Env := [(8, .int .i64 (fwrap .i64 (z10.2.1 + 1))), (90, .int .i64 (fwrap .i64 (z10.2.1 + 1))), (89, .int .i64 z10.2.1), (0, .str a0), (1, .int .i64 a1), (7, .int .i64 (orI .i64 (shlC .i64 z10.2.2 3) x6_7)), (8, .int .i64 z10.2.1)]
    refine ok_run 5 (p' := g52p16) (env' := E12) (H' := (mkH [])) (by kernel_rfl) ?_
    refine ok_keep [0, 1, 7, 8] (env' := [(0, .str a0), (1, .int .i64 a1), (7, .int .i64 (orI .i64 (shlC .i64 z10.2.2 3) x6_7)), (8, .int .i64 (fwrap .i64 (z10.2.1 + 1)))]) (by kernel_rfl) ?_
    exact ih (orI .i64 (shlC .i64 z10.2.2 3) x6_7) (fwrap .i64 (z10.2.1 + 1))
   ·let E13 : Env := [(5, .int .i64 z10.2.1), (4, .int .i64 z10.2.2), (92, .int .i64 z10.2.1), (91, .int .i64 z10.2.2), (79, .bool false), (0, .str a0), (1, .int .i64 a1), (7, .int .i64 z10.2.2), (8, .int .i64 z10.2.1), (79, .bool z10.1)]
    refine ok_run 10 (p' := .fin) (env' := E13) (H' := (mkH [])) (by kernel_rfl) ?_
    exact ok_ret (r := (z10.2.2, z10.2.1)) (xs := [.int .i64 z10.2.2, .int .i64 z10.2.1]) (v := .tuple [.int .i64 z10.2.2, .int .i64 z10.2.1]) (by kernel_rfl) (by kernel_rfl) (by kernel_rfl) (.pures (by kernel_rfl)) (by kernel_rfl)
  ·refine ok_split 63 (b := decide (y9_1 < 4)) (by kernel_rfl) (fun hb => ?_) (fun hb => ?_)
   ·let E14 : Env := ((71, .bool (decide (fwrap .i64 (a1 + y9_1) < (a0.length : Int)))) :: (70, .bool (decide (fwrap .i64 (a1 + y9_1) < (a0.length : Int)))) :: (69, .bool (decide (fwrap .i64 (a1 + y9_1) < (a0.length : Int)))) :: (68, .int .i64 (a0.length : Int)) :: (67, .str a0) :: (66, .int .i64 (fwrap .i64 (a1 + y9_1))) :: (65, .int .i64 y9_1) :: (64, .int .i64 a1) :: (63, .bool true) :: E10)
    refine ok_run 8 (p' := (atN 11 (ctl1 g52p18))) (env' := E14) (H' := (mkH [])) (by kernel_rfl) ?_
    refine ok_split 71 (b := decide (fwrap .i64 (a1 + y9_1) < (a0.length : Int))) (by kernel_rfl) (fun hb => ?_) (fun hb => ?_)
    ·let E15 : Env := ((75, .int .i64 (fwrap .i64 (a1 + y9_1))) :: (74, .int .i64 y9_1) :: (73, .int .i64 a1) :: (72, .str a0) :: (71, .bool true) :: E14)
     refine ok_run 4 (p' := (atN 15 (ctl1 g52p18))) (env' := E15) (H' := (mkH [])) (by kernel_rfl) ?_
     refine ok_chk (fun (x5_15 : Int) => (.int .u8 x5_15, (mkH []))) (atN 16 (ctl1 g52p18)) (fun x5_15 => ((76, .int .u8 x5_15) :: E15)) (idxH (by kernel_rfl)) (fun _ => by kernel_rfl) (fun x5_15 hx5_15 => ?_)
     refine ok_call (fun (x5_16 : Int) => .int .i64 x5_16) (atN 17 (ctl1 g52p18)) (fun x5_16 => ((77, .int .i64 x5_16) :: (76, .int .u8 x5_15) :: E15)) (fi := 63) (args := [.int .u8 x5_15]) (by kernel_rfl) (by kernel_rfl) (fun _ => by kernel_rfl) (fun r h => g63_ok k x5_15 r h) (fun _ => by kernel_rfl) (fun x5_16 hx5_16 => ?_)
     refine ok_run 3 (p' := g52p20) (env' := ((79, .bool (decide (x5_16 < 8))) :: (78, .bool (decide (x5_16 < 8))) :: (77, .int .i64 x5_16) :: (76, .int .u8 x5_15) :: E15)) (H' := (mkH [])) (by kernel_rfl) ?_
     refine ok_keep [0, 1, 7, 8, 79] (env' := [(0, .str a0), (1, .int .i64 a1), (7, .int .i64 y9_0), (8, .int .i64 y9_1), (79, .bool (decide (x5_16 < 8)))]) (by kernel_rfl) ?_
     exact hj10 (decide (x5_16 < 8), y9_1, y9_0)
    ·let E16 : Env := ((79, .bool false) :: (78, .tuple []) :: (77, .tuple []) :: (76, .tuple []) :: (75, .tuple []) :: (74, .tuple []) :: (73, .tuple []) :: (72, .tuple []) :: (71, .bool false) :: E14)
     refine ok_run 9 (p' := g52p20) (env' := E16) (H' := (mkH [])) (by kernel_rfl) ?_
     refine ok_keep [0, 1, 7, 8, 79] (env' := [(0, .str a0), (1, .int .i64 a1), (7, .int .i64 y9_0), (8, .int .i64 y9_1), (79, .bool false)]) (by kernel_rfl) ?_
     exact hj10 (false, y9_1, y9_0)
   ·let E17 : Env := ((79, .bool false) :: (78, .tuple []) :: (77, .tuple []) :: (76, .tuple []) :: (75, .tuple []) :: (74, .tuple []) :: (73, .tuple []) :: (72, .tuple []) :: (71, .bool false) :: (70, .bool false) :: (69, .tuple []) :: (68, .tuple []) :: (67, .tuple []) :: (66, .tuple []) :: (65, .tuple []) :: (64, .tuple []) :: (63, .bool false) :: E10)
    refine ok_run 17 (p' := g52p20) (env' := E17) (H' := (mkH [])) (by kernel_rfl) ?_
    refine ok_keep [0, 1, 7, 8, 79] (env' := [(0, .str a0), (1, .int .i64 a1), (7, .int .i64 y9_0), (8, .int .i64 y9_1), (79, .bool false)]) (by kernel_rfl) ?_
    exact hj10 (false, y9_1, y9_0)
def g52 (k : Nat) (a0 : (List Nat)) (a1 : Int) : Option (Int × Int) :=
 jn (fun (z7 : Bool) => if z7 then (some (((-1) : Int), (0 : Int))) else ((nthS a0 (fwrap .i64 (a1 + 1))).bind fun x1_3 => if (decide (x1_3 = 120)) then ((g61 k a0 a1).bind fun x2_2 => some (x2_2.1, x2_2.2)) else (if (decide (x1_3 = 94)) then ((g62 k a0 a1).bind fun x3_2 => some (x3_2.1, x3_2.2)) else (jn (fun (z8 : Bool) => if z8 then (g52_l9 k a0 a1 k 0 1) else (if (decide (x1_3 = 98)) then (some ((8 : Int), (2 : Int))) else (if (decide (x1_3 = 100)) then (some ((127 : Int), (2 : Int))) else (if (decide (x1_3 = 101)) then (some ((27 : Int), (2 : Int))) else (if (decide (x1_3 = 102)) then (some ((12 : Int), (2 : Int))) else (if (decide (x1_3 = 110)) then (some ((10 : Int), (2 : Int))) else (if (decide (x1_3 = 114)) then (some ((13 : Int), (2 : Int))) else (if (decide (x1_3 = 115)) then (some ((32 : Int), (2 : Int))) else (if (decide (x1_3 = 116)) then (some ((9 : Int), (2 : Int))) else (if (decide (x1_3 = 118)) then (some ((11 : Int), (2 : Int))) else ((g31 k a0 (fwrap .i64 (a1 + 1))).bind fun x4_3 => if (decide (x4_3.1 < 32)) then (some (((-1) : Int), (0 : Int))) else (some (x4_3.1, fwrap .i64 (x4_3.2 + 1)))))))))))))) (fun j8 => if (decide (48 ≤ x1_3)) then (j8 (decide (x1_3 ≤ 55))) else (j8 false)))))) (fun j7 => if (decide (a1 < 0)) then (j7 true) else (if (decide ((a0.length : Int) ≤ a1)) then (j7 true) else ((nthS a0 a1).bind fun x0_11 => if (!decide (x0_11 = 92)) then (j7 true) else (j7 (decide ((a0.length : Int) ≤ fwrap .i64 (a1 + 1)))))))
theorem g52_ok (k : Nat) (a0 : (List Nat)) (a1 : Int) (r : (Int × Int)) (h : g52 k a0 a1 = some r) : PureOk Try.prog 52 [.str a0, .int .i64 a1] (.tuple [.int .i64 r.1, .int .i64 r.2]) := by
 refine pure_of X52 (fun _ => rfl) Try.func52 (by decide +kernel) (by kernel_rfl) (t := g52 k a0 a1) ?_ h
 unfold g52
 refine ok_env (env' := [(0, .str a0), (1, .int .i64 a1)]) (by kernel_rfl) ?_
 let E1 : Env := [(15, .bool (decide (a1 < 0))), (14, .bool (decide (a1 < 0))), (13, .int .i64 a1), (5, .int .i64 0), (4, .int .i64 0), (0, .str a0), (1, .int .i64 a1)]
 refine ok_run 11 (p' := (atN 3 (ctl1 g52p1))) (env' := E1) (H' := (mkH [])) (by kernel_rfl) ?_
 refine ok_jn (f := fun (z7 : Bool) => if z7 then (some (((-1) : Int), (0 : Int))) else ((nthS a0 (fwrap .i64 (a1 + 1))).bind fun x1_3 => if (decide (x1_3 = 120)) then ((g61 k a0 a1).bind fun x2_2 => some (x2_2.1, x2_2.2)) else (if (decide (x1_3 = 94)) then ((g62 k a0 a1).bind fun x3_2 => some (x3_2.1, x3_2.2)) else (jn (fun (z8 : Bool) => if z8 then (g52_l9 k a0 a1 k 0 1) else (if (decide (x1_3 = 98)) then (some ((8 : Int), (2 : Int))) else (if (decide (x1_3 = 100)) then (some ((127 : Int), (2 : Int))) else (if (decide (x1_3 = 101)) then (some ((27 : Int), (2 : Int))) else (if (decide (x1_3 = 102)) then (some ((12 : Int), (2 : Int))) else (if (decide (x1_3 = 110)) then (some ((10 : Int), (2 : Int))) else (if (decide (x1_3 = 114)) then (some ((13 : Int), (2 : Int))) else (if (decide (x1_3 = 115)) then (some ((32 : Int), (2 : Int))) else (if (decide (x1_3 = 116)) then (some ((9 : Int), (2 : Int))) else (if (decide (x1_3 = 118)) then (some ((11 : Int), (2 : Int))) else ((g31 k a0 (fwrap .i64 (a1 + 1))).bind fun x4_3 => if (decide (x4_3.1 < 32)) then (some (((-1) : Int), (0 : Int))) else (some (x4_3.1, fwrap .i64 (x4_3.2 + 1)))))))))))))) (fun j8 => if (decide (48 ≤ x1_3)) then (j8 (decide (x1_3 ≤ 55))) else (j8 false)))))) g52p2 (fun (z7 : Bool) => [(0, .str a0), (1, .int .i64 a1), (33, .bool z7)]) (fun (z7 : Bool) => (mkH [])) (fun z7 => ?_) (fun j7 hj7 => ?_)
 ·refine ok_split 33 (b := z7) (by kernel_rfl) (fun hb => ?_) (fun hb => ?_)
  ·let E2 : Env := [(5, .int .i64 0), (4, .int .i64 (-1)), (33, .bool true), (0, .str a0), (1, .int .i64 a1), (33, .bool z7)]
   refine ok_run 7 (p' := .fin) (env' := E2) (H' := (mkH [])) (by kernel_rfl) ?_
   exact ok_ret (r := (((-1) : Int), (0 : Int))) (xs := [.int .i64 (-1), .int .i64 0]) (v := .tuple [.int .i64 (-1), .int .i64 0]) (by kernel_rfl) (by kernel_rfl) (by kernel_rfl) (.pures (by kernel_rfl)) (by kernel_rfl)
  ·let E3 : Env := [(36, .int .i64 (fwrap .i64 (a1 + 1))), (35, .int .i64 a1), (34, .str a0), (33, .bool false), (0, .str a0), (1, .int .i64 a1), (33, .bool z7)]
   refine ok_run 7 (p' := (atN 3 (ctl1 g52p4))) (env' := E3) (H' := (mkH [])) (by kernel_rfl) ?_
   refine ok_chk (fun (x1_3 : Int) => (.int .u8 x1_3, (mkH []))) (atN 4 (ctl1 g52p4)) (fun x1_3 => ((37, .int .u8 x1_3) :: E3)) (idxH (by kernel_rfl)) (fun _ => by kernel_rfl) (fun x1_3 hx1_3 => ?_)
   let E4 : Env := ((38, .bool (decide (x1_3 = 120))) :: (40, .bool (decide (x1_3 = 120))) :: (39, .int .u8 x1_3) :: (6, .int .u8 x1_3) :: (37, .int .u8 x1_3) :: E3)
   refine ok_run 10 (p' := g52p7) (env' := E4) (H' := (mkH [])) (by kernel_rfl) ?_
   refine ok_keep [0, 1, 6, 38] (env' := [(0, .str a0), (1, .int .i64 a1), (6, .int .u8 x1_3), (38, .bool (decide (x1_3 = 120)))]) (by kernel_rfl) ?_
   refine ok_split 38 (b := decide (x1_3 = 120)) (by kernel_rfl) (fun hb => ?_) (fun hb => ?_)
   ·let E5 : Env := [(42, .int .i64 a1), (41, .str a0), (38, .bool true), (0, .str a0), (1, .int .i64 a1), (6, .int .u8 x1_3), (38, .bool (decide (x1_3 = 120)))]
    refine ok_run 5 (p' := (atN 2 (ctl1 g52p8))) (env' := E5) (H' := (mkH [])) (by kernel_rfl) ?_
    refine ok_call (fun (x2_2 : (Int × Int)) => .tuple [.int .i64 x2_2.1, .int .i64 x2_2.2]) (atN 3 (ctl1 g52p8)) (fun x2_2 => ((43, .tuple [.int .i64 x2_2.1, .int .i64 x2_2.2]) :: E5)) (fi := 61) (args := [.str a0, .int .i64 a1]) (by kernel_rfl) (by kernel_rfl) (fun _ => by kernel_rfl) (fun r h => g61_ok k a0 a1 r h) (fun _ => by kernel_rfl) (fun x2_2 hx2_2 => ?_)
    let E6 : Env := ((5, .int .i64 x2_2.2) :: (4, .int .i64 x2_2.1) :: (45, .int .i64 x2_2.2) :: (44, .int .i64 x2_2.1) :: (43, .tuple [.int .i64 x2_2.1, .int .i64 x2_2.2]) :: E5)
    refine ok_run 6 (p' := .fin) (env' := E6) (H' := (mkH [])) (by kernel_rfl) ?_
    exact ok_ret (r := (x2_2.1, x2_2.2)) (xs := [.int .i64 x2_2.1, .int .i64 x2_2.2]) (v := .tuple [.int .i64 x2_2.1, .int .i64 x2_2.2]) (by kernel_rfl) (by kernel_rfl) (by kernel_rfl) (.pures (by kernel_rfl)) (by kernel_rfl)
   ·let E7 : Env := [(46, .bool (decide (x1_3 = 94))), (48, .bool (decide (x1_3 = 94))), (47, .int .u8 x1_3), (38, .bool false), (0, .str a0), (1, .int .i64 a1), (6, .int .u8 x1_3), (38, .bool (decide (x1_3 = 120)))]
    refine ok_run 7 (p' := g52p10) (env' := E7) (H' := (mkH [])) (by kernel_rfl) ?_
    refine ok_split 46 (b := decide (x1_3 = 94)) (by kernel_rfl) (fun hb => ?_) (fun hb => ?_)
    ·refine ok_run 5 (p' := (atN 2 (ctl1 g52p11))) (env' := ((50, .int .i64 a1) :: (49, .str a0) :: (46, .bool true) :: E7)) (H' := (mkH [])) (by kernel_rfl) ?_
     refine ok_call (fun (x3_2 : (Int × Int)) => .tuple [.int .i64 x3_2.1, .int .i64 x3_2.2]) (atN 3 (ctl1 g52p11)) (fun x3_2 => ((51, .tuple [.int .i64 x3_2.1, .int .i64 x3_2.2]) :: (50, .int .i64 a1) :: (49, .str a0) :: (46, .bool true) :: E7)) (fi := 62) (args := [.str a0, .int .i64 a1]) (by kernel_rfl) (by kernel_rfl) (fun _ => by kernel_rfl) (fun r h => g62_ok k a0 a1 r h) (fun _ => by kernel_rfl) (fun x3_2 hx3_2 => ?_)
     let E8 : Env := ((5, .int .i64 x3_2.2) :: (4, .int .i64 x3_2.1) :: (53, .int .i64 x3_2.2) :: (52, .int .i64 x3_2.1) :: (51, .tuple [.int .i64 x3_2.1, .int .i64 x3_2.2]) :: (50, .int .i64 a1) :: (49, .str a0) :: (46, .bool true) :: E7)
     refine ok_run 6 (p' := .fin) (env' := E8) (H' := (mkH [])) (by kernel_rfl) ?_
     exact ok_ret (r := (x3_2.1, x3_2.2)) (xs := [.int .i64 x3_2.1, .int .i64 x3_2.2]) (v := .tuple [.int .i64 x3_2.1, .int .i64 x3_2.2]) (by kernel_rfl) (by kernel_rfl) (by kernel_rfl) (.pures (by kernel_rfl)) (by kernel_rfl)
    ·refine ok_run 6 (p' := (atN 3 (ctl1 g52p12))) (env' := ((57, .bool (decide (48 ≤ x1_3))) :: (56, .bool (decide (48 ≤ x1_3))) :: (55, .int .u8 x1_3) :: (46, .bool false) :: E7)) (H' := (mkH [])) (by kernel_rfl) ?_
     refine ok_jn (f := fun (z8 : Bool) => if z8 then (g52_l9 k a0 a1 k 0 1) else (if (decide (x1_3 = 98)) then (some ((8 : Int), (2 : Int))) else (if (decide (x1_3 = 100)) then (some ((127 : Int), (2 : Int))) else (if (decide (x1_3 = 101)) then (some ((27 : Int), (2 : Int))) else (if (decide (x1_3 = 102)) then (some ((12 : Int), (2 : Int))) else (if (decide (x1_3 = 110)) then (some ((10 : Int), (2 : Int))) else (if (decide (x1_3 = 114)) then (some ((13 : Int), (2 : Int))) else (if (decide (x1_3 = 115)) then (some ((32 : Int), (2 : Int))) else (if (decide (x1_3 = 116)) then (some ((9 : Int), (2 : Int))) else (if (decide (x1_3 = 118)) then (some ((11 : Int), (2 : Int))) else ((g31 k a0 (fwrap .i64 (a1 + 1))).bind fun x4_3 => if (decide (x4_3.1 < 32)) then (some (((-1) : Int), (0 : Int))) else (some (x4_3.1, fwrap .i64 (x4_3.2 + 1)))))))))))))) g52p13 (fun (z8 : Bool) => [(0, .str a0), (1, .int .i64 a1), (6, .int .u8 x1_3), (54, .bool z8)]) (fun (z8 : Bool) => (mkH [])) (fun z8 => ?_) (fun j8 hj8 => ?_)
     ·refine ok_split 54 (b := z8) (by kernel_rfl) (fun hb => ?_) (fun hb => ?_)
      ·let E9 : Env := [(8, .int .i64 1), (7, .int .i64 0), (54, .bool true), (0, .str a0), (1, .int .i64 a1), (6, .int .u8 x1_3), (54, .bool z8)]
       refine ok_run 9 (p' := g52p16) (env' := E9) (H' := (mkH [])) (by kernel_rfl) ?_
       refine ok_keep [0, 1, 7, 8] (env' := [(0, .str a0), (1, .int .i64 a1), (7, .int .i64 0), (8, .int .i64 1)]) (by kernel_rfl) ?_
       exact (g52_l9_ok k a0 a1 k) 0 1
      ·let E18 : Env := [(54, .bool false), (0, .str a0), (1, .int .i64 a1), (6, .int .u8 x1_3), (54, .bool z8)]
       refine ok_run 5 (p' := (atN 0 (ctl1 g52p15))) (env' := E18) (H' := (mkH [])) (by kernel_rfl) ?_
       refine ok_range 93 (⟨#[98, 100, 101, 102, 110, 114, 115, 116, 118]⟩ : ByteArray) (by kernel_rfl) ?_
       refine okI_at (p' := (atN 1 (ctl1 g52p15))) (by kernel_rfl) ?_
       refine okI_run 3 (p' := g52p17) (env' := ((93, .top) :: E18)) (H' := (mkH [])) (by kernel_rfl) ?_
       refine okI_ent (p' := nav [0] g52p17) (by kernel_rfl) ?_
       refine okI_run 2 (p' := (atN 0 (ctl1 g52p19))) (env' := ((93, .top) :: E18)) (H' := (mkH [])) (by kernel_rfl) ?_
       refine okI_next 94 (by kernel_rfl) rfl 98 1 (by kernel_rfl) ?_
       refine okI_at (p' := (atN 1 (ctl1 g52p19))) (by kernel_rfl) ?_
       let E19 : Env := ((101, .bool (decide (x1_3 = 98))) :: (100, .int .u8 98) :: (99, .int .i32 98) :: (98, .int .u8 x1_3) :: (10, .int .i32 98) :: (9, .int .i64 0) :: (97, .int .i32 98) :: (96, .int .i64 0) :: (95, .bool true) :: (94, .tuple [.bool true, .int .i64 0, .int .i32 98]) :: (93, .top) :: E18)
       refine okI_run 20 (p' := g52p29) (env' := E19) (H' := (mkH [])) (by kernel_rfl) ?_
       refine okI_split 101 (b := decide (x1_3 = 98)) (by kernel_rfl) (fun hb => ?_) (fun hb => ?_)
       ·let E20 : Env := ((5, .int .i64 2) :: (4, .int .i64 8) :: (104, .int .i64 8) :: (103, .int .i64 0) :: (102, .agg [.int .i64 8, .int .i64 127, .int .i64 27, .int .i64 12, .int .i64 10, .int .i64 13, .int .i64 32, .int .i64 9, .int .i64 11]) :: (101, .bool true) :: E19)
        refine okI_run 10 (p' := .fin) (env' := E20) (H' := (mkH [])) (by kernel_rfl) ?_
        refine okI_drop ?_
        exact ok_ret (r := ((8 : Int), (2 : Int))) (xs := [.int .i64 8, .int .i64 2]) (v := .tuple [.int .i64 8, .int .i64 2]) (by kernel_rfl) (by kernel_rfl) (by kernel_rfl) (.pures (by kernel_rfl)) (by kernel_rfl)
       ·refine okI_run 2 (p' := g52p17) (env' := ((101, .bool false) :: E19)) (H' := (mkH [])) (by kernel_rfl) ?_
        refine okI_ent (p' := nav [0] g52p17) (by kernel_rfl) ?_
        refine okI_run 2 (p' := (atN 0 (ctl1 g52p19))) (env' := ((101, .bool false) :: E19)) (H' := (mkH [])) (by kernel_rfl) ?_
        refine okI_next 94 (by kernel_rfl) rfl 100 1 (by kernel_rfl) ?_
        refine okI_at (p' := (atN 1 (ctl1 g52p19))) (by kernel_rfl) ?_
        let E21 : Env := ((101, .bool (decide (x1_3 = 100))) :: (100, .int .u8 100) :: (99, .int .i32 100) :: (98, .int .u8 x1_3) :: (10, .int .i32 100) :: (9, .int .i64 1) :: (97, .int .i32 100) :: (96, .int .i64 1) :: (95, .bool true) :: (94, .tuple [.bool true, .int .i64 1, .int .i32 100]) :: (101, .bool false) :: E19)
        refine okI_run 20 (p' := g52p29) (env' := E21) (H' := (mkH [])) (by kernel_rfl) ?_
        refine okI_split 101 (b := decide (x1_3 = 100)) (by kernel_rfl) (fun hb => ?_) (fun hb => ?_)
        ·let E22 : Env := ((5, .int .i64 2) :: (4, .int .i64 127) :: (104, .int .i64 127) :: (103, .int .i64 1) :: (102, .agg [.int .i64 8, .int .i64 127, .int .i64 27, .int .i64 12, .int .i64 10, .int .i64 13, .int .i64 32, .int .i64 9, .int .i64 11]) :: (101, .bool true) :: E21)
         refine okI_run 10 (p' := .fin) (env' := E22) (H' := (mkH [])) (by kernel_rfl) ?_
         refine okI_drop ?_
         exact ok_ret (r := ((127 : Int), (2 : Int))) (xs := [.int .i64 127, .int .i64 2]) (v := .tuple [.int .i64 127, .int .i64 2]) (by kernel_rfl) (by kernel_rfl) (by kernel_rfl) (.pures (by kernel_rfl)) (by kernel_rfl)
        ·refine okI_run 2 (p' := g52p17) (env' := ((101, .bool false) :: E21)) (H' := (mkH [])) (by kernel_rfl) ?_
         refine okI_ent (p' := nav [0] g52p17) (by kernel_rfl) ?_
         refine okI_run 2 (p' := (atN 0 (ctl1 g52p19))) (env' := ((101, .bool false) :: E21)) (H' := (mkH [])) (by kernel_rfl) ?_
         refine okI_next 94 (by kernel_rfl) rfl 101 1 (by kernel_rfl) ?_
         refine okI_at (p' := (atN 1 (ctl1 g52p19))) (by kernel_rfl) ?_
         let E23 : Env := ((101, .bool (decide (x1_3 = 101))) :: (100, .int .u8 101) :: (99, .int .i32 101) :: (98, .int .u8 x1_3) :: (10, .int .i32 101) :: (9, .int .i64 2) :: (97, .int .i32 101) :: (96, .int .i64 2) :: (95, .bool true) :: (94, .tuple [.bool true, .int .i64 2, .int .i32 101]) :: (101, .bool false) :: E21)
         refine okI_run 20 (p' := g52p29) (env' := E23) (H' := (mkH [])) (by kernel_rfl) ?_
         refine okI_split 101 (b := decide (x1_3 = 101)) (by kernel_rfl) (fun hb => ?_) (fun hb => ?_)
         ·let E24 : Env := ((5, .int .i64 2) :: (4, .int .i64 27) :: (104, .int .i64 27) :: (103, .int .i64 2) :: (102, .agg [.int .i64 8, .int .i64 127, .int .i64 27, .int .i64 12, .int .i64 10, .int .i64 13, .int .i64 32, .int .i64 9, .int .i64 11]) :: (101, .bool true) :: E23)
          refine okI_run 10 (p' := .fin) (env' := E24) (H' := (mkH [])) (by kernel_rfl) ?_
          refine okI_drop ?_
          exact ok_ret (r := ((27 : Int), (2 : Int))) (xs := [.int .i64 27, .int .i64 2]) (v := .tuple [.int .i64 27, .int .i64 2]) (by kernel_rfl) (by kernel_rfl) (by kernel_rfl) (.pures (by kernel_rfl)) (by kernel_rfl)
         ·refine okI_run 2 (p' := g52p17) (env' := ((101, .bool false) :: E23)) (H' := (mkH [])) (by kernel_rfl) ?_
          refine okI_ent (p' := nav [0] g52p17) (by kernel_rfl) ?_
          refine okI_run 2 (p' := (atN 0 (ctl1 g52p19))) (env' := ((101, .bool false) :: E23)) (H' := (mkH [])) (by kernel_rfl) ?_
          refine okI_next 94 (by kernel_rfl) rfl 102 1 (by kernel_rfl) ?_
          refine okI_at (p' := (atN 1 (ctl1 g52p19))) (by kernel_rfl) ?_
          let E25 : Env := ((101, .bool (decide (x1_3 = 102))) :: (100, .int .u8 102) :: (99, .int .i32 102) :: (98, .int .u8 x1_3) :: (10, .int .i32 102) :: (9, .int .i64 3) :: (97, .int .i32 102) :: (96, .int .i64 3) :: (95, .bool true) :: (94, .tuple [.bool true, .int .i64 3, .int .i32 102]) :: (101, .bool false) :: E23)
          refine okI_run 20 (p' := g52p29) (env' := E25) (H' := (mkH [])) (by kernel_rfl) ?_
          refine okI_split 101 (b := decide (x1_3 = 102)) (by kernel_rfl) (fun hb => ?_) (fun hb => ?_)
          ·let E26 : Env := ((5, .int .i64 2) :: (4, .int .i64 12) :: (104, .int .i64 12) :: (103, .int .i64 3) :: (102, .agg [.int .i64 8, .int .i64 127, .int .i64 27, .int .i64 12, .int .i64 10, .int .i64 13, .int .i64 32, .int .i64 9, .int .i64 11]) :: (101, .bool true) :: E25)
           refine okI_run 10 (p' := .fin) (env' := E26) (H' := (mkH [])) (by kernel_rfl) ?_
           refine okI_drop ?_
           exact ok_ret (r := ((12 : Int), (2 : Int))) (xs := [.int .i64 12, .int .i64 2]) (v := .tuple [.int .i64 12, .int .i64 2]) (by kernel_rfl) (by kernel_rfl) (by kernel_rfl) (.pures (by kernel_rfl)) (by kernel_rfl)
          ·refine okI_run 2 (p' := g52p17) (env' := ((101, .bool false) :: E25)) (H' := (mkH [])) (by kernel_rfl) ?_
           refine okI_ent (p' := nav [0] g52p17) (by kernel_rfl) ?_
           refine okI_run 2 (p' := (atN 0 (ctl1 g52p19))) (env' := ((101, .bool false) :: E25)) (H' := (mkH [])) (by kernel_rfl) ?_
           refine okI_next 94 (by kernel_rfl) rfl 110 1 (by kernel_rfl) ?_
           refine okI_at (p' := (atN 1 (ctl1 g52p19))) (by kernel_rfl) ?_
           let E27 : Env := ((101, .bool (decide (x1_3 = 110))) :: (100, .int .u8 110) :: (99, .int .i32 110) :: (98, .int .u8 x1_3) :: (10, .int .i32 110) :: (9, .int .i64 4) :: (97, .int .i32 110) :: (96, .int .i64 4) :: (95, .bool true) :: (94, .tuple [.bool true, .int .i64 4, .int .i32 110]) :: (101, .bool false) :: E25)
           refine okI_run 20 (p' := g52p29) (env' := E27) (H' := (mkH [])) (by kernel_rfl) ?_
           refine okI_split 101 (b := decide (x1_3 = 110)) (by kernel_rfl) (fun hb => ?_) (fun hb => ?_)
           ·let E28 : Env := ((5, .int .i64 2) :: (4, .int .i64 10) :: (104, .int .i64 10) :: (103, .int .i64 4) :: (102, .agg [.int .i64 8, .int .i64 127, .int .i64 27, .int .i64 12, .int .i64 10, .int .i64 13, .int .i64 32, .int .i64 9, .int .i64 11]) :: (101, .bool true) :: E27)
            refine okI_run 10 (p' := .fin) (env' := E28) (H' := (mkH [])) (by kernel_rfl) ?_
            refine okI_drop ?_
            exact ok_ret (r := ((10 : Int), (2 : Int))) (xs := [.int .i64 10, .int .i64 2]) (v := .tuple [.int .i64 10, .int .i64 2]) (by kernel_rfl) (by kernel_rfl) (by kernel_rfl) (.pures (by kernel_rfl)) (by kernel_rfl)
           ·refine okI_run 2 (p' := g52p17) (env' := ((101, .bool false) :: E27)) (H' := (mkH [])) (by kernel_rfl) ?_
            refine okI_ent (p' := nav [0] g52p17) (by kernel_rfl) ?_
            refine okI_run 2 (p' := (atN 0 (ctl1 g52p19))) (env' := ((101, .bool false) :: E27)) (H' := (mkH [])) (by kernel_rfl) ?_
            refine okI_next 94 (by kernel_rfl) rfl 114 1 (by kernel_rfl) ?_
            refine okI_at (p' := (atN 1 (ctl1 g52p19))) (by kernel_rfl) ?_
            let E29 : Env := ((101, .bool (decide (x1_3 = 114))) :: (100, .int .u8 114) :: (99, .int .i32 114) :: (98, .int .u8 x1_3) :: (10, .int .i32 114) :: (9, .int .i64 5) :: (97, .int .i32 114) :: (96, .int .i64 5) :: (95, .bool true) :: (94, .tuple [.bool true, .int .i64 5, .int .i32 114]) :: (101, .bool false) :: E27)
            refine okI_run 20 (p' := g52p29) (env' := E29) (H' := (mkH [])) (by kernel_rfl) ?_
            refine okI_split 101 (b := decide (x1_3 = 114)) (by kernel_rfl) (fun hb => ?_) (fun hb => ?_)
            ·let E30 : Env := ((5, .int .i64 2) :: (4, .int .i64 13) :: (104, .int .i64 13) :: (103, .int .i64 5) :: (102, .agg [.int .i64 8, .int .i64 127, .int .i64 27, .int .i64 12, .int .i64 10, .int .i64 13, .int .i64 32, .int .i64 9, .int .i64 11]) :: (101, .bool true) :: E29)
             refine okI_run 10 (p' := .fin) (env' := E30) (H' := (mkH [])) (by kernel_rfl) ?_
             refine okI_drop ?_
             exact ok_ret (r := ((13 : Int), (2 : Int))) (xs := [.int .i64 13, .int .i64 2]) (v := .tuple [.int .i64 13, .int .i64 2]) (by kernel_rfl) (by kernel_rfl) (by kernel_rfl) (.pures (by kernel_rfl)) (by kernel_rfl)
            ·refine okI_run 2 (p' := g52p17) (env' := ((101, .bool false) :: E29)) (H' := (mkH [])) (by kernel_rfl) ?_
             refine okI_ent (p' := nav [0] g52p17) (by kernel_rfl) ?_
             refine okI_run 2 (p' := (atN 0 (ctl1 g52p19))) (env' := ((101, .bool false) :: E29)) (H' := (mkH [])) (by kernel_rfl) ?_
             refine okI_next 94 (by kernel_rfl) rfl 115 1 (by kernel_rfl) ?_
             refine okI_at (p' := (atN 1 (ctl1 g52p19))) (by kernel_rfl) ?_
             let E31 : Env := ((101, .bool (decide (x1_3 = 115))) :: (100, .int .u8 115) :: (99, .int .i32 115) :: (98, .int .u8 x1_3) :: (10, .int .i32 115) :: (9, .int .i64 6) :: (97, .int .i32 115) :: (96, .int .i64 6) :: (95, .bool true) :: (94, .tuple [.bool true, .int .i64 6, .int .i32 115]) :: (101, .bool false) :: E29)
             refine okI_run 20 (p' := g52p29) (env' := E31) (H' := (mkH [])) (by kernel_rfl) ?_
             refine okI_split 101 (b := decide (x1_3 = 115)) (by kernel_rfl) (fun hb => ?_) (fun hb => ?_)
             ·let E32 : Env := ((5, .int .i64 2) :: (4, .int .i64 32) :: (104, .int .i64 32) :: (103, .int .i64 6) :: (102, .agg [.int .i64 8, .int .i64 127, .int .i64 27, .int .i64 12, .int .i64 10, .int .i64 13, .int .i64 32, .int .i64 9, .int .i64 11]) :: (101, .bool true) :: E31)
              refine okI_run 10 (p' := .fin) (env' := E32) (H' := (mkH [])) (by kernel_rfl) ?_
              refine okI_drop ?_
              exact ok_ret (r := ((32 : Int), (2 : Int))) (xs := [.int .i64 32, .int .i64 2]) (v := .tuple [.int .i64 32, .int .i64 2]) (by kernel_rfl) (by kernel_rfl) (by kernel_rfl) (.pures (by kernel_rfl)) (by kernel_rfl)
             ·refine okI_run 2 (p' := g52p17) (env' := ((101, .bool false) :: E31)) (H' := (mkH [])) (by kernel_rfl) ?_
              refine okI_ent (p' := nav [0] g52p17) (by kernel_rfl) ?_
              refine okI_run 2 (p' := (atN 0 (ctl1 g52p19))) (env' := ((101, .bool false) :: E31)) (H' := (mkH [])) (by kernel_rfl) ?_
              refine okI_next 94 (by kernel_rfl) rfl 116 1 (by kernel_rfl) ?_
              refine okI_at (p' := (atN 1 (ctl1 g52p19))) (by kernel_rfl) ?_
              let E33 : Env := ((101, .bool (decide (x1_3 = 116))) :: (100, .int .u8 116) :: (99, .int .i32 116) :: (98, .int .u8 x1_3) :: (10, .int .i32 116) :: (9, .int .i64 7) :: (97, .int .i32 116) :: (96, .int .i64 7) :: (95, .bool true) :: (94, .tuple [.bool true, .int .i64 7, .int .i32 116]) :: (101, .bool false) :: E31)
              refine okI_run 20 (p' := g52p29) (env' := E33) (H' := (mkH [])) (by kernel_rfl) ?_
              refine okI_split 101 (b := decide (x1_3 = 116)) (by kernel_rfl) (fun hb => ?_) (fun hb => ?_)
              ·let E34 : Env := ((5, .int .i64 2) :: (4, .int .i64 9) :: (104, .int .i64 9) :: (103, .int .i64 7) :: (102, .agg [.int .i64 8, .int .i64 127, .int .i64 27, .int .i64 12, .int .i64 10, .int .i64 13, .int .i64 32, .int .i64 9, .int .i64 11]) :: (101, .bool true) :: E33)
               refine okI_run 10 (p' := .fin) (env' := E34) (H' := (mkH [])) (by kernel_rfl) ?_
               refine okI_drop ?_
               exact ok_ret (r := ((9 : Int), (2 : Int))) (xs := [.int .i64 9, .int .i64 2]) (v := .tuple [.int .i64 9, .int .i64 2]) (by kernel_rfl) (by kernel_rfl) (by kernel_rfl) (.pures (by kernel_rfl)) (by kernel_rfl)
              ·refine okI_run 2 (p' := g52p17) (env' := ((101, .bool false) :: E33)) (H' := (mkH [])) (by kernel_rfl) ?_
               refine okI_ent (p' := nav [0] g52p17) (by kernel_rfl) ?_
               refine okI_run 2 (p' := (atN 0 (ctl1 g52p19))) (env' := ((101, .bool false) :: E33)) (H' := (mkH [])) (by kernel_rfl) ?_
               refine okI_next 94 (by kernel_rfl) rfl 118 1 (by kernel_rfl) ?_
               refine okI_at (p' := (atN 1 (ctl1 g52p19))) (by kernel_rfl) ?_
               let E35 : Env := ((101, .bool (decide (x1_3 = 118))) :: (100, .int .u8 118) :: (99, .int .i32 118) :: (98, .int .u8 x1_3) :: (10, .int .i32 118) :: (9, .int .i64 8) :: (97, .int .i32 118) :: (96, .int .i64 8) :: (95, .bool true) :: (94, .tuple [.bool true, .int .i64 8, .int .i32 118]) :: (101, .bool false) :: E33)
               refine okI_run 20 (p' := g52p29) (env' := E35) (H' := (mkH [])) (by kernel_rfl) ?_
               refine okI_split 101 (b := decide (x1_3 = 118)) (by kernel_rfl) (fun hb => ?_) (fun hb => ?_)
               ·let E36 : Env := ((5, .int .i64 2) :: (4, .int .i64 11) :: (104, .int .i64 11) :: (103, .int .i64 8) :: (102, .agg [.int .i64 8, .int .i64 127, .int .i64 27, .int .i64 12, .int .i64 10, .int .i64 13, .int .i64 32, .int .i64 9, .int .i64 11]) :: (101, .bool true) :: E35)
                refine okI_run 10 (p' := .fin) (env' := E36) (H' := (mkH [])) (by kernel_rfl) ?_
                refine okI_drop ?_
                exact ok_ret (r := ((11 : Int), (2 : Int))) (xs := [.int .i64 11, .int .i64 2]) (v := .tuple [.int .i64 11, .int .i64 2]) (by kernel_rfl) (by kernel_rfl) (by kernel_rfl) (.pures (by kernel_rfl)) (by kernel_rfl)
               ·refine okI_run 2 (p' := g52p17) (env' := ((101, .bool false) :: E35)) (H' := (mkH [])) (by kernel_rfl) ?_
                refine okI_ent (p' := nav [0] g52p17) (by kernel_rfl) ?_
                refine okI_run 2 (p' := (atN 0 (ctl1 g52p19))) (env' := ((101, .bool false) :: E35)) (H' := (mkH [])) (by kernel_rfl) ?_
                refine okI_over 94 (by kernel_rfl) rfl ?_
                refine okI_drop ?_
                refine ok_at (p' := (atN 1 (ctl1 g52p19))) (by kernel_rfl) ?_
                refine ok_run 3 (p' := g52p21) (env' := ((95, .bool false) :: (94, .tuple [.bool false]) :: (101, .bool false) :: E35)) (H' := (mkH [])) (by kernel_rfl) ?_
                refine ok_keep [0, 1, 6, 94, 95] (env' := [(0, .str a0), (1, .int .i64 a1), (6, .int .u8 x1_3), (94, .tuple [.bool false]), (95, .bool false)]) (by kernel_rfl) ?_
                let E37 : Env := [(108, .int .i64 (fwrap .i64 (a1 + 1))), (107, .int .i64 a1), (106, .str a0), (0, .str a0), (1, .int .i64 a1), (6, .int .u8 x1_3), (94, .tuple [.bool false]), (95, .bool false)]
                refine ok_run 7 (p' := (atN 3 (ctl1 g52p25))) (env' := E37) (H' := (mkH [])) (by kernel_rfl) ?_
                refine ok_call (fun (x4_3 : (Int × Int)) => .tuple [.int .i64 x4_3.1, .int .i64 x4_3.2]) (atN 4 (ctl1 g52p25)) (fun x4_3 => ((109, .tuple [.int .i64 x4_3.1, .int .i64 x4_3.2]) :: E37)) (fi := 31) (args := [.str a0, .int .i64 (fwrap .i64 (a1 + 1))]) (by kernel_rfl) (by kernel_rfl) (fun _ => by kernel_rfl) (fun r h => g31_ok k a0 (fwrap .i64 (a1 + 1)) r h) (fun _ => by kernel_rfl) (fun x4_3 hx4_3 => ?_)
                let E38 : Env := ((12, .int .i64 x4_3.2) :: (11, .int .i64 x4_3.1) :: (111, .int .i64 x4_3.2) :: (110, .int .i64 x4_3.1) :: (105, .tuple [.int .i64 x4_3.1, .int .i64 x4_3.2]) :: (109, .tuple [.int .i64 x4_3.1, .int .i64 x4_3.2]) :: E37)
                refine ok_run 8 (p' := g52p28) (env' := E38) (H' := (mkH [])) (by kernel_rfl) ?_
                refine ok_keep [11, 12] (env' := [(11, .int .i64 x4_3.1), (12, .int .i64 x4_3.2)]) (by kernel_rfl) ?_
                refine ok_run 4 (p' := g52p30) (env' := [(113, .bool (decide (x4_3.1 < 32))), (112, .int .i64 x4_3.1), (11, .int .i64 x4_3.1), (12, .int .i64 x4_3.2)]) (H' := (mkH [])) (by kernel_rfl) ?_
                refine ok_split 113 (b := decide (x4_3.1 < 32)) (by kernel_rfl) (fun hb => ?_) (fun hb => ?_)
                ·let E39 : Env := [(5, .int .i64 0), (4, .int .i64 (-1)), (113, .bool true), (113, .bool (decide (x4_3.1 < 32))), (112, .int .i64 x4_3.1), (11, .int .i64 x4_3.1), (12, .int .i64 x4_3.2)]
                 refine ok_run 7 (p' := .fin) (env' := E39) (H' := (mkH [])) (by kernel_rfl) ?_
                 exact ok_ret (r := (((-1) : Int), (0 : Int))) (xs := [.int .i64 (-1), .int .i64 0]) (v := .tuple [.int .i64 (-1), .int .i64 0]) (by kernel_rfl) (by kernel_rfl) (by kernel_rfl) (.pures (by kernel_rfl)) (by kernel_rfl)
                ·let E40 : Env := [(5, .int .i64 (fwrap .i64 (x4_3.2 + 1))), (4, .int .i64 x4_3.1), (116, .int .i64 (fwrap .i64 (x4_3.2 + 1))), (115, .int .i64 x4_3.2), (114, .int .i64 x4_3.1), (113, .bool false), (113, .bool (decide (x4_3.1 < 32))), (112, .int .i64 x4_3.1), (11, .int .i64 x4_3.1), (12, .int .i64 x4_3.2)]
                 refine ok_run 11 (p' := .fin) (env' := E40) (H' := (mkH [])) (by kernel_rfl) ?_
                 exact ok_ret (r := (x4_3.1, fwrap .i64 (x4_3.2 + 1))) (xs := [.int .i64 x4_3.1, .int .i64 (fwrap .i64 (x4_3.2 + 1))]) (v := .tuple [.int .i64 x4_3.1, .int .i64 (fwrap .i64 (x4_3.2 + 1))]) (by kernel_rfl) (by kernel_rfl) (by kernel_rfl) (.pures (by kernel_rfl)) (by kernel_rfl)
     ·refine ok_split 57 (b := decide (48 ≤ x1_3)) (by kernel_rfl) (fun hb => ?_) (fun hb => ?_)
      ·let E41 : Env := ((54, .bool (decide (x1_3 ≤ 55))) :: (60, .bool (decide (x1_3 ≤ 55))) :: (59, .bool (decide (x1_3 ≤ 55))) :: (58, .int .u8 x1_3) :: (57, .bool true) :: (57, .bool (decide (48 ≤ x1_3))) :: (56, .bool (decide (48 ≤ x1_3))) :: (55, .int .u8 x1_3) :: (46, .bool false) :: E7)
       refine ok_run 5 (p' := g52p13) (env' := E41) (H' := (mkH [])) (by kernel_rfl) ?_
       refine ok_keep [0, 1, 6, 54] (env' := [(0, .str a0), (1, .int .i64 a1), (6, .int .u8 x1_3), (54, .bool (decide (x1_3 ≤ 55)))]) (by kernel_rfl) ?_
       exact hj8 (decide (x1_3 ≤ 55))
      ·let E42 : Env := ((54, .bool false) :: (60, .bool false) :: (59, .tuple []) :: (58, .tuple []) :: (57, .bool false) :: (57, .bool (decide (48 ≤ x1_3))) :: (56, .bool (decide (48 ≤ x1_3))) :: (55, .int .u8 x1_3) :: (46, .bool false) :: E7)
       refine ok_run 5 (p' := g52p13) (env' := E42) (H' := (mkH [])) (by kernel_rfl) ?_
       refine ok_keep [0, 1, 6, 54] (env' := [(0, .str a0), (1, .int .i64 a1), (6, .int .u8 x1_3), (54, .bool false)]) (by kernel_rfl) ?_
       exact hj8 false
 ·refine ok_split 15 (b := decide (a1 < 0)) (by kernel_rfl) (fun hb => ?_) (fun hb => ?_)
  ·let E43 : Env := ((33, .bool true) :: (32, .tuple []) :: (31, .tuple []) :: (30, .tuple []) :: (29, .tuple []) :: (28, .tuple []) :: (27, .bool true) :: (26, .bool true) :: (25, .tuple []) :: (24, .tuple []) :: (23, .tuple []) :: (22, .tuple []) :: (21, .bool true) :: (20, .bool true) :: (19, .tuple []) :: (18, .tuple []) :: (17, .tuple []) :: (16, .tuple []) :: (15, .bool true) :: E1)
   refine ok_run 19 (p' := g52p2) (env' := E43) (H' := (mkH [])) (by kernel_rfl) ?_
   refine ok_keep [0, 1, 33] (env' := [(0, .str a0), (1, .int .i64 a1), (33, .bool true)]) (by kernel_rfl) ?_
   exact hj7 true
  ·let E44 : Env := ((21, .bool (decide ((a0.length : Int) ≤ a1))) :: (20, .bool (decide ((a0.length : Int) ≤ a1))) :: (19, .bool (decide ((a0.length : Int) ≤ a1))) :: (18, .int .i64 (a0.length : Int)) :: (17, .str a0) :: (16, .int .i64 a1) :: (15, .bool false) :: E1)
   refine ok_run 6 (p' := (atN 9 (ctl1 g52p1))) (env' := E44) (H' := (mkH [])) (by kernel_rfl) ?_
   refine ok_split 21 (b := decide ((a0.length : Int) ≤ a1)) (by kernel_rfl) (fun hb => ?_) (fun hb => ?_)
   ·let E45 : Env := ((33, .bool true) :: (32, .tuple []) :: (31, .tuple []) :: (30, .tuple []) :: (29, .tuple []) :: (28, .tuple []) :: (27, .bool true) :: (26, .bool true) :: (25, .tuple []) :: (24, .tuple []) :: (23, .tuple []) :: (22, .tuple []) :: (21, .bool true) :: E44)
    refine ok_run 13 (p' := g52p2) (env' := E45) (H' := (mkH [])) (by kernel_rfl) ?_
    refine ok_keep [0, 1, 33] (env' := [(0, .str a0), (1, .int .i64 a1), (33, .bool true)]) (by kernel_rfl) ?_
    exact hj7 true
   ·refine ok_run 2 (p' := (atN 11 (ctl1 g52p1))) (env' := ((23, .int .i64 a1) :: (22, .str a0) :: (21, .bool false) :: E44)) (H' := (mkH [])) (by kernel_rfl) ?_
    refine ok_chk (fun (x0_11 : Int) => (.int .u8 x0_11, (mkH []))) (atN 12 (ctl1 g52p1)) (fun x0_11 => ((24, .int .u8 x0_11) :: (23, .int .i64 a1) :: (22, .str a0) :: (21, .bool false) :: E44)) (idxH (by kernel_rfl)) (fun _ => by kernel_rfl) (fun x0_11 hx0_11 => ?_)
    let E46 : Env := ((27, .bool (!decide (x0_11 = 92))) :: (26, .bool (!decide (x0_11 = 92))) :: (25, .bool (!decide (x0_11 = 92))) :: (24, .int .u8 x0_11) :: (23, .int .i64 a1) :: (22, .str a0) :: (21, .bool false) :: E44)
    refine ok_run 3 (p' := (atN 15 (ctl1 g52p1))) (env' := E46) (H' := (mkH [])) (by kernel_rfl) ?_
    refine ok_split 27 (b := !decide (x0_11 = 92)) (by kernel_rfl) (fun hb => ?_) (fun hb => ?_)
    ·let E47 : Env := ((33, .bool true) :: (32, .tuple []) :: (31, .tuple []) :: (30, .tuple []) :: (29, .tuple []) :: (28, .tuple []) :: (27, .bool true) :: E46)
     refine ok_run 7 (p' := g52p2) (env' := E47) (H' := (mkH [])) (by kernel_rfl) ?_
     refine ok_keep [0, 1, 33] (env' := [(0, .str a0), (1, .int .i64 a1), (33, .bool true)]) (by kernel_rfl) ?_
     exact hj7 true
    ·let E48 : Env := ((33, .bool (decide ((a0.length : Int) ≤ fwrap .i64 (a1 + 1)))) :: (32, .bool (decide ((a0.length : Int) ≤ fwrap .i64 (a1 + 1)))) :: (31, .int .i64 (a0.length : Int)) :: (30, .str a0) :: (29, .int .i64 (fwrap .i64 (a1 + 1))) :: (28, .int .i64 a1) :: (27, .bool false) :: E46)
     refine ok_run 7 (p' := g52p2) (env' := E48) (H' := (mkH [])) (by kernel_rfl) ?_
     refine ok_keep [0, 1, 33] (env' := [(0, .str a0), (1, .int .i64 a1), (33, .bool (decide ((a0.length : Int) ≤ fwrap .i64 (a1 + 1))))]) (by kernel_rfl) ?_
     exact hj7 (decide ((a0.length : Int) ≤ fwrap .i64 (a1 + 1)))
end
end Go.Proofs.Ytokcjgjgojlhbaa.Am
set_option maxRecDepth 100000
set_option linter.unusedVariables false
set_option linter.unusedSimpArgs false
namespace Go.Proofs.Ytokcjgjgojlhbaa.Am
open Go
def digV (b : Nat) : Nat → Nat → List Nat → Nat × Nat
 | 0, v, _ => (v, 0)
 | _ + 1, v, [] => (v, 0)
 | m + 1, v, c :: r => if dgN c < b then ((digV b m (v * b + dgN c) r).1, (digV b m (v * b + dgN c) r).2 + 1) else (v, 0)
def hexBr (q : List Nat) : Int × Int := if (digV 16 6 0 q).2 = 0 then (-1, 0) else match q.drop (digV 16 6 0 q).2 with | c :: _ => if c = 125 ∧ cpN (digV 16 6 0 q).1 = true then (((digV 16 6 0 q).1 : Int), ((4 + (digV 16 6 0 q).2 : Nat) : Int)) else (-1, 0) | [] => (-1, 0)
def hex2 (r : List Nat) : Int × Int := if (digV 16 2 0 r).2 < 2 then (-1, 0) else (((digV 16 2 0 r).1 : Int), 4)
def hexN (r : List Nat) : Int × Int := match r with | c :: q => if c = 123 then hexBr q else hex2 (c :: q) | [] => (-1, 0)
def ctlN (r : List Nat) : Int × Int := match r with | c :: _ => if c < 64 ∨ 95 < c ∧ (c < 97 ∨ 122 < c) then (-1, 0) else (((c % 32 : Nat) : Int), 3) | [] => (-1, 0)
def nameN (c : Nat) : Nat := if c = 98 then 8 else if c = 100 then 127 else if c = 101 then 27 else if c = 102 then 12 else if c = 110 then 10 else if c = 114 then 13 else if c = 115 then 32 else if c = 116 then 9 else if c = 118 then 11 else 0
def uniN (s : List Nat) : Int × Int := if (dec s).1 < 32 then (-1, 0) else ((dec s).1, (dec s).2 + 1)
def octN (s : List Nat) : Int × Int := (((digV 8 3 0 s).1 : Int), ((1 + (digV 8 3 0 s).2 : Nat) : Int))
def escB (c : Nat) (r : List Nat) : Int × Int := if c = 120 then hexN r else if c = 94 then ctlN r else if 48 ≤ c ∧ c ≤ 55 then octN (c :: r) else if nameN c = 0 then uniN (c :: r) else ((nameN c : Int), 2)
def escN (s : List Nat) : Int × Int := match s with | a :: c :: r => if a = 92 then escB c r else (-1, 0) | _ => (-1, 0)
theorem digV_le (b : Nat) : ∀ (m v : Nat) (s : List Nat), (digV b m v s).2 ≤ m ∧ (digV b m v s).2 ≤ s.length
 | 0, v, s => ⟨Nat.le_refl _, Nat.zero_le _⟩
 | m + 1, v, [] => ⟨Nat.zero_le _, Nat.le_refl _⟩
 | m + 1, v, c :: r => by
  have := digV_le b m (v * b + dgN c) r
  simp only [digV]
  split
  ·simp only [List.length_cons]; omega
  ·exact ⟨Nat.zero_le _, Nat.zero_le _⟩
theorem digV_lt (b : Nat) (hb : 0 < b) : ∀ (m v : Nat) (s : List Nat), (digV b m v s).1 < (v + 1) * b ^ m
 | 0, v, s => by simp only [digV, Nat.pow_zero, Nat.mul_one]; omega
 | m + 1, v, [] => by
  simp only [digV]
  have : 1 ≤ b ^ (m + 1) := Nat.one_le_pow _ _ hb
  calc v < v + 1 := Nat.lt_succ_self _
   _ = (v + 1) * 1 := (Nat.mul_one _).symm
   _ ≤ _ := Nat.mul_le_mul_left _ this
 | m + 1, v, c :: r => by
  simp only [digV]
  split
  ·rename_i h
   have := digV_lt b hb m (v * b + dgN c) r
   refine Nat.lt_of_lt_of_le this ?_
   rw [Nat.pow_succ, Nat.mul_comm (b ^ m) b, ← Nat.mul_assoc]
   refine Nat.mul_le_mul_right _ ?_
   rw [Nat.add_mul, Nat.one_mul]; omega
  ·have : 1 ≤ b ^ (m + 1) := Nat.one_le_pow _ _ hb
   calc v < v + 1 := Nat.lt_succ_self _
    _ = (v + 1) * 1 := (Nat.mul_one _).symm
    _ ≤ _ := Nat.mul_le_mul_left _ this
theorem or_sh (m : Nat) (hm : m ≤ 10) {y x : Nat} (hy : y < 1099511627776) (hx : x < 2 ^ m) : orI .i64 (shlC .i64 (y : Int) m) (x : Int) = ((y * 2 ^ m + x : Nat) : Int) := by
 have hp : 2 ^ m ≤ 1024 := Nat.pow_le_pow_right (n := 2) (by decide) hm
 have hq : y * 2 ^ m ≤ 1099511627776 * 1024 := Nat.mul_le_mul (Nat.le_of_lt hy) hp
 have e1 : shlC .i64 (y : Int) m = ((y * 2 ^ m : Nat) : Int) := by
  unfold shlC
  have : (y : Int) * 2 ^ m = ((y * 2 ^ m : Nat) : Int) := by push_cast; rfl
  rw [this, fwI (by omega) (by omega)]
 rw [e1]
 unfold orI
 have e2 : ∀ x : Nat, x < 2 ^ 63 → (BitVec.ofInt IntKind.i64.bits (x : Int)).toNat = x := by
  intro x hx
  show (BitVec.ofInt 64 (x : Int)).toNat = x
  rw [BitVec.toNat_ofInt]
  omega
 rw [BitVec.toNat_or, e2 _ (by omega), e2 _ (by omega)]
 have e3 : y * 2 ^ m ||| x = y * 2 ^ m + x := by
  have h := Nat.two_pow_add_eq_or_of_lt (i := m) hx y
  rw [Nat.mul_comm y (2 ^ m)]
  exact h.symm
 rw [e3, fwI (by omega) (by omega)]
theorem and31 {c : Nat} (h : c < 256) : andI .u8 (c : Int) 31 = ((c % 32 : Nat) : Int) ∧ andI .i64 (c : Int) 31 = ((c % 32 : Nat) : Int) := by
 have w := byteAll (f := fun c => decide (andI .u8 (c : Int) 31 = ((c % 32 : Nat) : Int)) && decide (andI .i64 (c : Int) 31 = ((c % 32 : Nat) : Int))) (by decide +kernel) h
 simpa using w
theorem control_at (k : Nat) {s : List Nat} (hs : By s) (hl : Sz s) {a : Nat} (ha : a + 2 ≤ s.length) : g62 k s (a : Int) = some (ctlN (s.drop (a + 2))) := by
 unfold Sz at hl
 unfold g62
 rcases Nat.lt_or_ge (a + 2) s.length with h | h
 ·obtain ⟨c, r, hc, hr, hm, hrl⟩ := dcons h
  have n2 : nthS s ((a : Int) + 2) = some (c : Int) := nthX (by omega) hc
  have c256 := hs c hm
  refine iF (by first | (simp (disch := omega) only [↓reduceIte, ↓jn, gsL]; done) | rfl) ?_
  refine bS (by (try simp (disch := omega) only [fwI]); exact n2) ?_
  rw [hc]
  by_cases h0 : c < 64 ∨ 95 < c ∧ (c < 97 ∨ 122 < c)
  ·simp only [ctlN, h0, if_true]
   refine (jS (v := true) (fun j => ?_)).trans rfl
   by_cases h1 : c < 64
   ·simp (disch := omega) only [↓reduceIte, ↓jn, gsL]
   ·by_cases h2 : c < 97
    ·simp (disch := omega) only [↓reduceIte, ↓jn, gsL]
    ·simp (disch := omega) only [↓reduceIte, ↓jn, gsL]
  ·simp only [ctlN, h0, if_false]
   refine (jS (v := false) (fun j => ?_)).trans ?_
   ·by_cases h1 : 95 < c
    ·simp (disch := omega) only [↓reduceIte, ↓jn, gsL]
    ·simp (disch := omega) only [↓reduceIte, ↓jn, gsL]
   ·refine iF (by first | (simp (disch := omega) only [↓reduceIte, ↓jn, gsL]; done) | rfl) ?_
    rw [(and31 c256).1, fwI (by omega) (by omega)]
 ·refine iT (by first | (simp (disch := omega) only [↓reduceIte, ↓jn, gsL]; done) | rfl) ?_
  rw [dnil h]; rfl
theorem oct_l (k : Nat) {s : List Nat} (hs : By s) (hl : Sz s) {a : Nat} : ∀ (d f n v : Nat), n + d = 4 → d < f → (v + 1) * 8 ^ d ≤ 4096 → a + n ≤ s.length + 4 →
 g52_l9 k s (a : Int) f (v : Int) (n : Int) = some (((digV 8 d v (s.drop (a + n))).1 : Int), ((n + (digV 8 d v (s.drop (a + n))).2 : Nat) : Int))
 | 0, f, n, v, hn, hf, hv, ha => by
  unfold Sz at hl
  obtain ⟨f, rfl⟩ : ∃ f', f = f' + 1 := ⟨f - 1, by omega⟩
  rw [g52_l9_s]
  refine (jS (v := (false, (n : Int), (v : Int))) (fun j => ?_)).trans ?_
  ·simp (disch := omega) only [↓reduceIte, ↓jn, gsL]
  ·rfl
 | d + 1, f, n, v, hn, hf, hv, ha => by
  have hl' := hl
  unfold Sz at hl
  obtain ⟨f, rfl⟩ : ∃ f', f = f' + 1 := ⟨f - 1, by omega⟩
  rw [g52_l9_s]
  rcases Nat.lt_or_ge (a + n) s.length with h | h
  ·obtain ⟨c, r, hc, hr, hm, hrl⟩ := dcons h
   have nc : nthS s ((a : Int) + n) = some (c : Int) := nthX (by omega) hc
   have dc := digit_at k (hs c hm)
   by_cases hd : dgN c < 8
   ·have e := fun _ : Unit => fw_s (n := n) (by omega)
    refine (jS (v := (true, (n : Int), (v : Int))) (fun j => ?_)).trans ?_
    ·simp (disch := omega) only [↓reduceIte, ↓jn, gsL, nc, dc]
    ·refine iT (by first | (simp (disch := omega) only [↓reduceIte, ↓jn, gsL]; done) | rfl) ?_
     refine bS (by (try simp (disch := omega) only [fwI]); exact nc) ?_
     refine bS (by (try simp (disch := omega) only [fwI]); exact dc) ?_
     have hp : 1 ≤ 8 ^ d := Nat.one_le_pow _ _ (by decide)
     have hv' : (v * 2 ^ 3 + dgN c + 1) * 8 ^ d ≤ 4096 := by
      refine Nat.le_trans ?_ hv
      rw [Nat.pow_succ 8 d, Nat.mul_comm (8 ^ d) 8, ← Nat.mul_assoc]
      exact Nat.mul_le_mul_right _ (by omega)
     have hv1 : v * 2 ^ 3 + dgN c + 1 ≤ 4096 := Nat.le_trans (Nat.le_mul_of_pos_right _ hp) hv'
     have o := or_sh 3 (by decide) (y := v) (x := dgN c) (by omega) (by omega)
     rw [o]
     have ih := oct_l k hs hl' (a := a) d f (n + 1) (v * 2 ^ 3 + dgN c) (by omega) (by omega) hv' (by omega)
     rw [e ()]
     refine ih.trans ?_
     rw [show a + (n + 1) = a + n + 1 from rfl, hr, hc]
     simp only [digV, hd, if_true, show (2 : Nat) ^ 3 = 8 from rfl]
     refine congrArg some (Prod.ext rfl ?_)
     show ((_ : Nat) : Int) = ((_ : Nat) : Int)
     omega
   ·refine (jS (v := (false, (n : Int), (v : Int))) (fun j => ?_)).trans ?_
    ·simp (disch := omega) only [↓reduceIte, ↓jn, gsL, nc, dc]
    ·rw [hc]; simp only [digV, hd, if_false]; rfl
  ·refine (jS (v := (false, (n : Int), (v : Int))) (fun j => ?_)).trans ?_
   ·simp (disch := omega) only [↓reduceIte, ↓jn, gsL]
   ·rw [dnil h]; simp only [digV]; rfl
def finH (s : List Nat) (a p : Nat) (bh : Bool) (v n : Nat) : Int × Int :=
 if bh then (if n < 1 then (-1, 0) else match s.drop (p + n) with | c :: _ => if c = 125 ∧ cpN v = true then ((v : Int), ((p + n + 1 - a : Nat) : Int)) else (-1, 0) | [] => (-1, 0))
 else (if n < 2 then (-1, 0) else if cpN v = true then ((v : Int), ((p + n - a : Nat) : Int)) else (-1, 0))
theorem put_nil (v : Nat) : eqL (put (v : Int)) [] = !cpN v := by
 cases h : cpN v with
 | false => rw [put_no h]; rfl
 | true =>
  rw [put_cp h]
  unfold enc
  repeat' split
  all_goals rfl
theorem hex_e {k : Nat} (hk : 6 ≤ k) {s : List Nat} (hs : By s) (hl : Sz s) {a p M : Nat} (bh : Bool) (hp : a ≤ p) (hpl : p ≤ s.length + 10) {v n f : Nat} (hn : n ≤ 6) (hend : n = M ∨ s.length ≤ p + n ∨ ∃ c r, s.drop (p + n) = c :: r ∧ ¬ dgN c < 16) :
 g61_l6 k s (a : Int) ((p : Int), (M : Int), if bh then 1 else 0) (f + 1) (v : Int) (n : Int) = some (finH s a p bh v n) := by
 have hl' := hl
 unfold Sz at hl
 rw [g61_l6_s]
 refine (jS (v := (false, (v : Int), (n : Int))) (fun j => ?_)).trans ?_
 ·by_cases h1 : n < M
  ·by_cases h2 : p + n < s.length
   ·obtain ⟨c, r, hc, hd⟩ : ∃ c r, s.drop (p + n) = c :: r ∧ ¬ dgN c < 16 := by
     rcases hend with h | h | h
     ·omega
     ·omega
     ·exact h
    have nc : nthS s ((p : Int) + n) = some (c : Int) := nthX (by omega) hc
    simp (disch := omega) only [↓reduceIte, ↓jn, gsL, nc, digit_at k (hs c (drop_mem hc))]
   ·simp (disch := omega) only [↓reduceIte, ↓jn, gsL]
  ·simp (disch := omega) only [↓reduceIte, ↓jn, gsL]
 ·refine iF (by first | (simp (disch := omega) only [↓reduceIte, ↓jn, gsL]; done) | rfl) ?_
  simp only [fw_a (n := p) (m := n) (by omega) (by omega), put_at hk, Option.bind_some, put_nil]
  unfold finH
  cases bh with
  | false =>
   simp only [Bool.false_eq_true, if_false]
   by_cases h1 : n < 2
   ·rw [if_pos h1]
    refine (jS (v := ((v : Int), ((p + n : Nat) : Int), true)) (fun j => ?_)).trans rfl
    simp (disch := omega) only [↓reduceIte, ↓jn, gsL]
   ·rw [if_neg h1]
    refine (jS (v := ((v : Int), ((p + n : Nat) : Int), !cpN v)) (fun j => ?_)).trans ?_
    ·simp (disch := omega) only [↓reduceIte, ↓jn, gsL]
    ·cases cpN v with
     | false => rfl
     | true => refine iF (by first | (simp (disch := omega) only [↓reduceIte, ↓jn, gsL]; done) | rfl) ?_; simp (disch := omega) only [↓reduceIte, ↓jn, gsL]; exact congrArg some (Prod.ext rfl (by show _ = ((_ : Nat) : Int); omega))
  | true =>
   simp only [if_true]
   by_cases h1 : n < 1
   ·rw [if_pos h1]
    refine (jS (v := ((v : Int), ((p + n : Nat) : Int), true)) (fun j => ?_)).trans rfl
    simp (disch := omega) only [↓reduceIte, ↓jn, gsL]
   ·rw [if_neg h1]
    rcases Nat.lt_or_ge (p + n) s.length with h2 | h2
    ·obtain ⟨c, r, hc, hr, hm, hrl⟩ := dcons h2
     have nc : nthS s ((p + n : Nat) : Int) = some (c : Int) := nthX rfl hc
     rw [hc]
     by_cases h125 : c = 125
     ·subst h125
      refine (jS (v := ((v : Int), ((p + n : Nat) : Int), !cpN v)) (fun j => ?_)).trans ?_
      ·simp (disch := omega) only [↓reduceIte, ↓jn, gsL, nc]
      ·simp only [true_and]
       cases cpN v with
       | false => rfl
       | true => refine iF (by first | (simp (disch := omega) only [↓reduceIte, ↓jn, gsL]; done) | rfl) ?_; simp (disch := omega) only [↓reduceIte, ↓jn, gsL]; exact congrArg some (Prod.ext rfl (by show _ = ((_ : Nat) : Int); omega))
     ·refine (jS (v := ((v : Int), ((p + n : Nat) : Int), true)) (fun j => ?_)).trans ?_
      ·simp (disch := omega) only [↓reduceIte, ↓jn, gsL, nc]
      ·simp only [h125, false_and, if_false]; rfl
    ·rw [dnil h2]
     refine (jS (v := ((v : Int), ((p + n : Nat) : Int), true)) (fun j => ?_)).trans rfl
     simp (disch := omega) only [↓reduceIte, ↓jn, gsL]
theorem hex_l {k : Nat} (hk : 6 ≤ k) {s : List Nat} (hs : By s) (hl : Sz s) {a p M : Nat} (bh : Bool) (hp : a ≤ p) (hpl : p ≤ s.length + 10) (hM : M ≤ 6) : ∀ (d f n v : Nat), n + d = M → d < f → (v + 1) * 16 ^ d ≤ 16777216 →
 g61_l6 k s (a : Int) ((p : Int), (M : Int), if bh then 1 else 0) f (v : Int) (n : Int) = some (finH s a p bh (digV 16 d v (s.drop (p + n))).1 (n + (digV 16 d v (s.drop (p + n))).2))
 | 0, f, n, v, hn, hf, hv => by
  obtain ⟨f, rfl⟩ : ∃ f', f = f' + 1 := ⟨f - 1, by omega⟩
  exact hex_e hk hs hl bh hp hpl (by omega) (.inl (by omega))
 | d + 1, f, n, v, hn, hf, hv => by
  have hl' := hl
  unfold Sz at hl
  obtain ⟨f, rfl⟩ : ∃ f', f = f' + 1 := ⟨f - 1, by omega⟩
  rcases Nat.lt_or_ge (p + n) s.length with h | h
  ·obtain ⟨c, r, hc, hr, hm, hrl⟩ := dcons h
   by_cases hd : dgN c < 16
   ·rw [g61_l6_s]
    have nc : nthS s ((p : Int) + n) = some (c : Int) := nthX (by omega) hc
    have dc := digit_at k (hs c hm)
    have e := fun _ : Unit => fw_s (n := n) (by clear hv; omega)
    have hnM : n < M := by omega
    refine (jS (v := (true, (v : Int), (n : Int))) (fun j => ?_)).trans ?_
    ·clear hv; simp (disch := omega) only [↓reduceIte, ↓jn, gsL, nc, dc]
    ·refine iT (by first | (simp (disch := omega) only [↓reduceIte, ↓jn, gsL]; done) | rfl) ?_
     refine bS (by (try simp (disch := omega) only [fwI]); exact nc) ?_
     refine bS (by (try simp (disch := omega) only [fwI]); exact dc) ?_
     have h16 : 1 ≤ 16 ^ d := Nat.one_le_pow _ _ (by decide)
     have hv' : (v * 2 ^ 4 + dgN c + 1) * 16 ^ d ≤ 16777216 := by
      refine Nat.le_trans ?_ hv
      rw [Nat.pow_succ 16 d, Nat.mul_comm (16 ^ d) 16, ← Nat.mul_assoc]
      exact Nat.mul_le_mul_right _ (by omega)
     have hv1 : v * 2 ^ 4 + dgN c + 1 ≤ 16777216 := Nat.le_trans (Nat.le_mul_of_pos_right _ h16) hv'
     have o := or_sh 4 (by decide) (y := v) (x := dgN c) (by omega) (by omega)
     rw [o]
     have ih := hex_l hk hs hl' (a := a) (p := p) (M := M) bh hp hpl hM d f (n + 1) (v * 2 ^ 4 + dgN c) (by omega) (by omega) hv'
     rw [e ()]
     refine ih.trans ?_
     rw [show p + (n + 1) = p + n + 1 from rfl, hr, hc]
     simp only [digV, hd, if_true, show (2 : Nat) ^ 4 = 16 from rfl]
     rw [Nat.add_assoc n 1, Nat.add_comm 1]
   ·rw [hc]
    simp only [digV, hd, if_false]
    exact hex_e hk hs hl' bh hp hpl (by omega) (.inr (.inr ⟨c, r, hc, hd⟩))
  ·rw [dnil h]
   simp only [digV]
   exact hex_e hk hs hl' bh hp hpl (by omega) (.inr (.inl (by omega)))
theorem cp_small {v : Nat} (h : v < 256) : cpN v = true := by unfold cpN; simp; omega
theorem hex_at {k : Nat} (hk : 10 ≤ k) {s : List Nat} (hs : By s) (hl : Sz s) {a : Nat} (ha : a + 2 ≤ s.length) : g61 k s (a : Int) = some (hexN (s.drop (a + 2))) := by
 have hl' := hl
 unfold Sz at hl
 unfold g61
 have e2 := fun _ : Unit => fw_a (n := a) (m := 2) (by omega) (by omega)
 have two : ∀ r, s.drop (a + 2) = r → some (finH s a (a + 2) false (digV 16 2 0 (s.drop (a + 2 + 0))).1 (0 + (digV 16 2 0 (s.drop (a + 2 + 0))).2)) = some (hex2 r) := by
  intro r hr
  rw [Nat.add_zero, hr, Nat.zero_add]
  have h1 := digV_le 16 2 0 r
  have h2 := digV_lt 16 (by decide) 2 0 r
  unfold finH hex2
  simp only [Bool.false_eq_true, if_false]
  by_cases h : (digV 16 2 0 r).2 < 2
  ·rw [if_pos h, if_pos h]
  ·rw [if_neg h, if_neg h, if_pos (cp_small (by simpa using h2))]
   exact congrArg some (Prod.ext rfl (by show ((_ : Nat) : Int) = 4; omega))
 rw [show fwrap .i64 ((a : Int) + 2) = ((a + 2 : Nat) : Int) from e2 ()]
 clear e2
 rcases Nat.lt_or_ge (a + 2) s.length with h | h
 ·obtain ⟨c, r, hc, hr, hm, hrl⟩ := dcons h
  have nc : nthS s ((a + 2 : Nat) : Int) = some (c : Int) := nthX rfl hc
  by_cases h123 : c = 123
  ·subst h123
   refine (jS (v := true) (fun j => ?_)).trans ?_
   ·simp (disch := omega) only [↓reduceIte, ↓jn, gsL, nc]
   ·refine (jS (v := (((a + 3 : Nat) : Int), ((6 : Nat) : Int), if true then 1 else 0)) (fun j => ?_)).trans ?_
    ·refine iT (by first | (simp (disch := omega) only [↓reduceIte, ↓jn, gsL]; done) | rfl) ?_
     rw [fw_s (n := a + 2) (by omega)]; rfl
    ·refine (hex_l (by omega) hs hl' (a := a) (p := a + 3) (M := 6) true (by omega) (by omega) (by decide) 6 k 0 0 rfl (by omega) (by decide)).trans ?_
     rw [Nat.add_zero, show a + 3 = a + 2 + 1 from rfl, hr, hc, Nat.zero_add]
     have h1 := digV_le 16 6 0 r
     unfold finH hexN hexBr
     simp only [if_true, if_true]
     by_cases h0 : (digV 16 6 0 r).2 = 0
     ·rw [if_pos (by omega), if_pos h0]
     ·rw [if_neg (by omega), if_neg h0, ← List.drop_drop, hr]
      cases r.drop (digV 16 6 0 r).2 with
      | nil => rfl
      | cons d q =>
       simp only []
       by_cases hd : d = 125 ∧ cpN (digV 16 6 0 r).1 = true
       ·rw [if_pos hd, if_pos hd]
        exact congrArg some (Prod.ext rfl (by show ((_ : Nat) : Int) = ((_ : Nat) : Int); omega))
       ·rw [if_neg hd, if_neg hd]
  ·refine (jS (v := false) (fun j => ?_)).trans ?_
   ·simp (disch := omega) only [↓reduceIte, ↓jn, gsL, nc]
   ·refine (jS (v := (((a + 2 : Nat) : Int), ((2 : Nat) : Int), if false then 1 else 0)) (fun j => ?_)).trans ?_
    ·refine iF (by first | (simp (disch := omega) only [↓reduceIte, ↓jn, gsL]; done) | rfl) ?_
     rfl
    ·refine (hex_l (by omega) hs hl' (a := a) (p := a + 2) (M := 2) false (by omega) (by omega) (by decide) 2 k 0 0 rfl (by omega) (by decide)).trans ?_
     rw [two _ hc, hc]
     simp only [hexN, h123, if_false]
 ·refine (jS (v := false) (fun j => ?_)).trans ?_
  ·simp (disch := omega) only [↓reduceIte, ↓jn, gsL]
  ·refine (jS (v := (((a + 2 : Nat) : Int), ((2 : Nat) : Int), if false then 1 else 0)) (fun j => ?_)).trans ?_
   ·refine iF (by first | (simp (disch := omega) only [↓reduceIte, ↓jn, gsL]; done) | rfl) ?_
    rfl
   ·refine (hex_l (by omega) hs hl' (a := a) (p := a + 2) (M := 2) false (by omega) (by omega) (by decide) 2 k 0 0 rfl (by omega) (by decide)).trans ?_
    rw [two _ (dnil h), dnil h]
    rfl
end Go.Proofs.Ytokcjgjgojlhbaa.Am
set_option maxRecDepth 100000
set_option linter.unusedVariables false
set_option linter.unusedSimpArgs false
namespace Go.Proofs.Ytokcjgjgojlhbaa.Am
open Go
def skipN : List Nat → Nat
 | [] => 0
 | c :: r => if blkN c then skipN r + 1 else 0
def innN : List Nat → Nat
 | [] => 0
 | c :: r => if inrN c then innN r + 1 else 0
def shwN (s : List Nat) : Nat := if (dec s).1 < 32 ∨ (dec s).1 = 127 then 0 else (dec s).2.toNat
def bmp (n m : Nat) : Nat := if m = 0 then 0 else n + m
def quoN (q : Nat) : Nat → List Nat → Nat
 | 0, _ => 0
 | _ + 1, [] => 0
 | f + 1, c :: r => if c = q then 1 else if c = 92 then bmp (1 + shwN r) (if shwN r = 0 then 0 else quoN q f (r.drop (shwN r))) else bmp (shwN (c :: r)) (if shwN (c :: r) = 0 then 0 else quoN q f ((c :: r).drop (shwN (c :: r))))
def qtdN (s : List Nat) : Nat := match s with | q :: r => bmp 1 (quoN q r.length r) | [] => 0
def chrN (s : List Nat) : Nat := match s with | _ :: c :: r => if c = 92 then (if 0 < (escN (c :: r)).2 then (escN (c :: r)).2.toNat + 1 else 0) else if shwN (c :: r) ≠ 0 ∧ c ≠ 32 then shwN (c :: r) + 1 else 0 | _ => 0
def endN (s : List Nat) (n kind : Nat) : Nat × Nat := match s.drop n with | c :: _ => if inrN c then (0, 0) else (n, kind) | [] => (n, kind)
def hashN (s : List Nat) (w : Nat) : Bool := match s.drop w with | c :: _ => decide (c = 35) && (decide ((frontN s).1 = 0) || decide (w < (frontN s).1)) | [] => false
def numN (s : List Nat) : Nat × Nat := if partN s = 0 then (if hashN s (wholeN s) then (0, 0) else endN s (wholeN s) 3) else endN s (partN s) 4
def lineN : List Nat → Nat
 | [] => 0
 | c :: r => if c = 10 then 0 else lineN r + 1
def trmN (s : List Nat) : Nat → Nat
 | 0 => 0
 | i + 1 => match s.drop i with | c :: _ => if blkN c then trmN s i else i + 1 | [] => i + 1
def cmtN (s : List Nat) : Nat := trmN s (lineN s)
def mac1 (n : Nat) (t : List Nat) : Nat := match t with | c :: _ => if begN c = 1 ∨ begN c = 2 then n + innN t else 0 | [] => 0
def macN (s : List Nat) : Nat := match s with | _ :: c :: r => if c = 63 then mac1 2 r else mac1 1 (c :: r) | _ => 0
def dotN (r : List Nat) : Bool := match r with | [] => true | c :: _ => blkN c || decide (c = 37)
def oneN (s : List Nat) : Nat × Nat := match s with
 | [] => (0, 0)
 | c :: r => if c = 37 then (cmtN s, 11) else if c = 46 ∧ dotN r = true then (1, 10) else if c = 39 then (qtdN s, 1) else if c = 34 then (qtdN s, 6) else if c = 36 then (chrN s, 5) else if c = 63 then (macN s, 7)
  else if begN c = 3 then numN s else if begN c = 1 ∨ begN c = 2 then (innN s, if rsvN (s.take (innN s)) then 8 else begN c) else (lngN s, 9)
theorem skipN_le : ∀ s : List Nat, skipN s ≤ s.length
 | [] => Nat.le_refl _
 | c :: r => by simp only [skipN, List.length_cons]; have := skipN_le r; split <;> omega
theorem innN_le : ∀ s : List Nat, innN s ≤ s.length
 | [] => Nat.le_refl _
 | c :: r => by simp only [innN, List.length_cons]; have := innN_le r; split <;> omega
theorem lineN_le : ∀ s : List Nat, lineN s ≤ s.length
 | [] => Nat.le_refl _
 | c :: r => by simp only [lineN, List.length_cons]; have := lineN_le r; split <;> omega
theorem trmN_le (s : List Nat) : ∀ i, trmN s i ≤ i
 | 0 => Nat.le_refl _
 | i + 1 => by
  simp only [trmN]
  have := trmN_le s i
  split
  ·split <;> omega
  ·omega
theorem shwN_le (s : List Nat) : shwN s ≤ s.length ∧ shwN s ≤ 4 := by
 unfold shwN
 split
 ·omega
 ·cases s with
  | nil => exact ⟨Nat.le_refl _, Nat.zero_le _⟩
  | cons c r =>
   obtain ⟨n, n1, n2, n3, n4, -⟩ := dec_size (s := c :: r) (by simp)
   rw [n1, Int.toNat_natCast]; exact ⟨n4, n3⟩
theorem bmp_le {n m k : Nat} (h : n + m ≤ k) : bmp n m ≤ k := by unfold bmp; split <;> omega
theorem quoN_le (q : Nat) : ∀ (f : Nat) (s : List Nat), quoN q f s ≤ s.length
 | 0, s => Nat.zero_le _
 | f + 1, [] => Nat.zero_le _
 | f + 1, c :: r => by
  have h1 := (shwN_le r).1
  have h2 := (shwN_le (c :: r)).1
  have h3 := quoN_le q f (r.drop (shwN r))
  have h4 := quoN_le q f ((c :: r).drop (shwN (c :: r)))
  rw [List.length_drop] at h3 h4
  simp only [List.length_cons] at h2 h4 ⊢
  simp only [quoN]
  split
  ·omega
  ·split
   ·by_cases h : shwN r = 0
    ·rw [if_pos h]; simp [bmp]
    ·rw [if_neg h]; exact bmp_le (by omega)
   ·by_cases h : shwN (c :: r) = 0
    ·rw [if_pos h]; simp [bmp]
    ·rw [if_neg h]; exact bmp_le (by omega)
theorem qtdN_le (s : List Nat) : qtdN s ≤ s.length := by
 unfold qtdN
 split
 ·rename_i q r
  have := quoN_le q r.length r
  simp only [List.length_cons]
  exact bmp_le (by omega)
 ·exact Nat.zero_le _
theorem dec_ascii {c : Nat} (r : List Nat) (h : c < 128) : dec (c :: r) = ((c : Int), 1) := by
 have hl : leadN c = (1, c) := by unfold leadN; rw [if_pos h]
 have hc : cpN c = true := by unfold cpN; simp; omega
 have hm : moreN 0 c r = some c := by cases r <;> rfl
 simp only [dec, hl]
 rw [if_neg (by decide)]
 show fitN 1 (moreN 0 c r) = _
 rw [hm]
 show (if leastN 1 ≤ c ∧ cpN c = true then _ else _) = _
 rw [if_pos ⟨Nat.zero_le _, hc⟩]
 rfl
theorem escN_cases (s : List Nat) : escN s = (-1, 0) ∨ ∃ v n : Nat, escN s = ((v : Int), (n : Int)) ∧ 2 ≤ n ∧ n ≤ s.length := by
 match s with
 | [] => exact .inl rfl
 | [a] => exact .inl rfl
 | a :: c :: r =>
  simp only [escN]
  split
  ·unfold escB
   split
   ·
    unfold hexN
    cases r with
    | nil => exact .inl rfl
    | cons d q =>
     simp only []
     split
     ·unfold hexBr
      split
      ·exact .inl rfl
      ·have h1 := (digV_le 16 6 0 q).2
       split
       ·rename_i hz
        split
        ·right
         refine ⟨_, _, rfl, by omega, ?_⟩
         have := congrArg List.length hz
         simp only [List.length_drop, List.length_cons] at this ⊢
         omega
        ·exact .inl rfl
       ·exact .inl rfl
     ·unfold hex2
      split
      ·exact .inl rfl
      ·have h1 := digV_le 16 2 0 (d :: q)
       right
       refine ⟨_, 4, rfl, by omega, ?_⟩
       simp only [List.length_cons] at h1 ⊢
       omega
   ·split
    ·unfold ctlN
     split
     ·split
      ·exact .inl rfl
      ·right; exact ⟨_, 3, rfl, by omega, by simp⟩
     ·exact .inl rfl
    ·split
     ·right
      rename_i h8
      have h1 := digV_le 8 3 0 (c :: r)
      refine ⟨_, _, rfl, ?_, ?_⟩
      ·have : dgN c < 8 := by unfold dgN; rw [if_pos (by omega)]; omega
       simp only [digV, this, if_true]; omega
      ·simp only [List.length_cons] at h1 ⊢; omega
     ·split
      ·unfold uniN
       split
       ·exact .inl rfl
       ·rename_i h32
        obtain ⟨n, n1, n2, n3, n4, -⟩ := dec_size (s := c :: r) (by simp)
        right
        refine ⟨(dec (c :: r)).1.toNat, n + 1, ?_, by omega, ?_⟩
        ·rw [n1]; refine Prod.ext ?_ ?_
         ·simp only []; omega
         ·simp only []; push_cast; rfl
        ·simp only [List.length_cons] at n4 ⊢; omega
      ·right; exact ⟨_, 2, rfl, by omega, by simp⟩
  ·exact .inl rfl
theorem chrN_le (s : List Nat) : chrN s ≤ s.length := by
 unfold chrN
 split
 ·rename_i a c r
  have h1 := (shwN_le (c :: r)).1
  split
  ·rcases escN_cases (c :: r) with h | ⟨v, n, h, h2, h3⟩
   ·rw [h]; simp
   ·rw [h]; simp only [List.length_cons] at h3 ⊢
    split
    ·rw [Int.toNat_natCast]; omega
    ·omega
  ·split
   ·simp only [List.length_cons] at h1 ⊢; omega
   ·omega
 ·omega
theorem expN_le (s : List Nat) : expN s ≤ s.length := by
 unfold expN
 split
 ·rename_i e q
  split
  ·have h1 := runN_le 10 false (q.drop (sgn q))
   have h2 := sgn_le q
   rw [List.length_drop] at h1
   simp only [List.length_cons]
   split <;> omega
  ·omega
 ·omega
theorem partN_le (s : List Nat) : partN s ≤ s.length := by
 unfold partN
 split
 ·omega
 ·have h0 := runN_le 10 false s
  unfold fracN
  split
  ·rename_i c r hc
   have hl := drop_len hc
   split
   ·split
    ·omega
    ·have h1 := runN_le 10 false r
     have h2 := expN_le (r.drop (runN 10 false r))
     rw [List.length_drop] at h2
     omega
   ·omega
  ·omega
theorem wholeN_le (s : List Nat) : wholeN s ≤ s.length := by
 unfold wholeN
 have h0 := runN_le 10 false s
 have h1 := runN_le (frontN s).2 false (s.drop (frontN s).1)
 have h2 := (frontN_le s).1
 rw [List.length_drop] at h1
 split <;> omega
theorem endN_le {s : List Nat} {n kind : Nat} (h : n ≤ s.length) : (endN s n kind).1 ≤ s.length := by
 unfold endN
 split
 ·split
  ·exact Nat.zero_le _
  ·exact h
 ·exact h
theorem numN_le (s : List Nat) : (numN s).1 ≤ s.length := by
 unfold numN
 split
 ·split
  ·exact Nat.zero_le _
  ·exact endN_le (wholeN_le s)
 ·exact endN_le (partN_le s)
theorem mac1_le (n : Nat) (t : List Nat) : mac1 n t ≤ n + t.length := by
 unfold mac1
 split
 ·rename_i c r
  have := innN_le (c :: r)
  split <;> omega
 ·omega
theorem macN_le (s : List Nat) : macN s ≤ s.length := by
 unfold macN
 split
 ·rename_i a c r
  have h1 := mac1_le 2 r
  have h2 := mac1_le 1 (c :: r)
  simp only [List.length_cons] at h2 ⊢
  split <;> omega
 ·omega
theorem oneN_le (s : List Nat) : (oneN s).1 ≤ s.length := by
 unfold oneN
 split
 ·exact Nat.le_refl _
 ·rename_i c r
  repeat' split
  ·exact Nat.le_trans (trmN_le _ _) (lineN_le _)
  ·simp
  ·exact qtdN_le (c :: r)
  ·exact qtdN_le (c :: r)
  ·exact chrN_le (c :: r)
  ·exact macN_le (c :: r)
  ·exact numN_le (c :: r)
  ·exact innN_le (c :: r)
  ·exact innN_le (c :: r)
  ·exact fstN_le _ _
end Go.Proofs.Ytokcjgjgojlhbaa.Am
set_option maxRecDepth 100000
set_option linter.unusedVariables false
set_option linter.unusedSimpArgs false
namespace Go.Proofs.Ytokcjgjgojlhbaa.Am
open Go
def mkTok (s : List Nat) (x : Nat × Nat × Nat) : S28 := ⟨(x.1 : Int), (s.drop x.2.1).take x.2.2, (x.2.1 : Int)⟩
def toksN (s : List Nat) : Nat → Nat → Option (List (Nat × Nat × Nat))
 | 0, _ => some []
 | f + 1, a => if s.length ≤ a + skipN (s.drop a) then some [] else if (oneN (s.drop (a + skipN (s.drop a)))).1 = 0 then none else (toksN s f (a + skipN (s.drop a) + (oneN (s.drop (a + skipN (s.drop a)))).1)).map fun l => ((oneN (s.drop (a + skipN (s.drop a)))).2, a + skipN (s.drop a), (oneN (s.drop (a + skipN (s.drop a)))).1) :: l
def scanN (s : List Nat) : List S28 × Int := if 65536 < s.length then ([], 3) else if vld s.length s = false then ([], 2) else match toksN s (s.length + 1) 0 with | some l => (l.map (mkTok s), 0) | none => ([], 4)
def tok0 : S28 := ⟨0, [], 0⟩
def oneAt (s : List Nat) (a : Nat) : S28 × Int := if (oneN (s.drop a)).1 = 0 then (tok0, 4) else (mkTok s ((oneN (s.drop a)).2, a, (oneN (s.drop a)).1), 0)
theorem toks_len (s : List Nat) : ∀ (f a : Nat) (l : List (Nat × Nat × Nat)), toksN s f a = some l → a ≤ s.length → l.length + a ≤ s.length
 | 0, a, l, h, ha => by cases h; simpa using ha
 | f + 1, a, l, h, ha => by
  unfold toksN at h
  split at h
  ·cases h; simpa using ha
  ·split at h
   ·cases h
   ·rename_i h1 h2
    cases hx : toksN s f (a + skipN (s.drop a) + (oneN (s.drop (a + skipN (s.drop a)))).1) with
    | none => rw [hx] at h; cases h
    | some l' =>
     rw [hx] at h
     cases h
     have ol := oneN_le (s.drop (a + skipN (s.drop a)))
     rw [List.length_drop] at ol
     have := toks_len s f _ l' hx (by omega)
     simp only [List.length_cons]
     omega
end Go.Proofs.Ytokcjgjgojlhbaa.Am
set_option maxRecDepth 100000
set_option linter.unusedVariables false
set_option linter.unusedSimpArgs false
namespace Go.Proofs.Ytokcjgjgojlhbaa.Am
open Go
theorem dg_10 : dgN 10 = 99 := by decide
theorem moreN_nl : ∀ (n c : Nat) (r t : List Nat), moreN n c (r ++ 10 :: t) = moreN n c r
 | 0, _, _, _ => by simp [moreN]
 | n + 1, c, [], t => by simp [moreN]
 | n + 1, c, b :: r, t => by
  simp only [List.cons_append, moreN]
  split
  ·exact moreN_nl n _ r t
  ·rfl
theorem dec_nl (c : Nat) (r t : List Nat) : dec (c :: r ++ 10 :: t) = dec (c :: r) := by
 simp only [List.cons_append, dec, moreN_nl]
theorem shw_nl : ∀ (u t : List Nat), shwN (u ++ 10 :: t) = shwN u
 | [], t => by unfold shwN; rw [List.nil_append, dec_ascii t (by decide)]; rfl
 | c :: r, t => by unfold shwN; rw [dec_nl]
theorem isD_nl {b : Nat} (hb : b ≤ 99) (u t : List Nat) : isD b (u ++ 10 :: t) = isD b u := by
 cases u with
 | nil => simp only [List.nil_append, isD_nil, isD_cons, dg_10]; exact decide_eq_false (by omega)
 | cons c r => rfl
theorem run_nl {b : Nat} (hb : b ≤ 99) : ∀ (p : Bool) (u t : List Nat), runN b p (u ++ 10 :: t) = runN b p u
 | p, [], t => by
  rw [List.nil_append, runN_cons, dg_10, if_neg (by omega)]
  simp [runN]
 | p, c :: r, t => by
  rw [List.cons_append, runN_cons, runN_cons, run_nl hb true r t, run_nl hb false r t, isD_nl hb]
theorem drop_nl {u : List Nat} {n : Nat} (h : n ≤ u.length) (t : List Nat) : (u ++ 10 :: t).drop n = u.drop n ++ 10 :: t := List.drop_append_of_le_length h
theorem take_nl {u : List Nat} {n : Nat} (h : n ≤ u.length) (t : List Nat) : (u ++ 10 :: t).take n = u.take n := List.take_append_of_le_length h
theorem front_nl : ∀ (u t : List Nat), frontN (u ++ 10 :: t) = frontN u
 | [], t => by
  cases t with
  | nil => rfl
  | cons c t => simp only [List.nil_append, frontN, dg_10]; rfl
 | [a], t => by
  simp only [List.cons_append, List.nil_append, frontN, dg_10]
  split
  ·rfl
  ·rfl
 | [a, b], t => by
  simp only [List.cons_append, List.nil_append, frontN]
  simp
 | a :: b :: c :: r, t => rfl
theorem whole_nl (u t : List Nat) : wholeN (u ++ 10 :: t) = wholeN u := by
 unfold wholeN
 rw [front_nl, drop_nl (frontN_le u).1, run_nl (by have := (frontN_le u).2; omega), run_nl (by decide)]
theorem sgn_nl (u t : List Nat) : sgn (u ++ 10 :: t) = sgn u := by cases u <;> rfl
theorem exp_nl (u t : List Nat) : expN (u ++ 10 :: t) = expN u := by
 cases u with
 | nil => rfl
 | cons e q => simp only [List.cons_append, expN, sgn_nl, drop_nl (sgn_le q), run_nl (show 10 ≤ 99 by decide)]
theorem frac_nl (n : Nat) (u t : List Nat) : fracN n (u ++ 10 :: t) = fracN n u := by
 cases u with
 | nil => rfl
 | cons c r => simp only [List.cons_append, fracN, run_nl (show 10 ≤ 99 by decide), drop_nl (runN_le 10 false r), exp_nl]
theorem part_nl (u t : List Nat) : partN (u ++ 10 :: t) = partN u := by
 unfold partN
 rw [run_nl (by decide), drop_nl (runN_le 10 false u), frac_nl]
theorem digV_nl {b : Nat} (hb : b ≤ 99) : ∀ (m v : Nat) (u t : List Nat), digV b m v (u ++ 10 :: t) = digV b m v u
 | 0, _, _, _ => by simp [digV]
 | m + 1, v, [], t => by
  simp only [List.nil_append, digV, dg_10]
  rw [if_neg (by omega)]
 | m + 1, v, c :: r, t => by
  simp only [List.cons_append, digV]
  rw [digV_nl hb]
theorem hexN_nl (u t : List Nat) : hexN (u ++ 10 :: t) = hexN u := by
 cases u with
 | nil =>
  simp only [List.nil_append, hexN]
  rw [if_neg (by decide)]
  unfold hex2
  have : digV 16 2 0 (10 :: t) = (0, 0) := by simp only [digV, dg_10]; rfl
  rw [this]; rfl
 | cons c q =>
  simp only [List.cons_append, hexN]
  have h2 : hex2 (c :: (q ++ 10 :: t)) = hex2 (c :: q) := by
   unfold hex2
   rw [← List.cons_append, digV_nl (by decide)]
  have h3 : hexBr (q ++ 10 :: t) = hexBr q := by
   unfold hexBr
   rw [digV_nl (by decide), drop_nl (digV_le 16 6 0 q).2]
   cases q.drop (digV 16 6 0 q).2 <;> rfl
  rw [h2, h3]
theorem ctl_nl (u t : List Nat) : ctlN (u ++ 10 :: t) = ctlN u := by cases u <;> rfl
theorem escB_nl (c : Nat) (r t : List Nat) : escB c (r ++ 10 :: t) = escB c r := by
 unfold escB
 have h1 : octN (c :: (r ++ 10 :: t)) = octN (c :: r) := by unfold octN; rw [← List.cons_append, digV_nl (by decide)]
 have h2 : uniN (c :: (r ++ 10 :: t)) = uniN (c :: r) := by unfold uniN; rw [← List.cons_append, dec_nl]
 rw [hexN_nl, ctl_nl, h1, h2]
theorem esc_nl (u t : List Nat) : escN (u ++ 10 :: t) = escN u := by
 match u with
 | [] => cases t <;> rfl
 | [a] =>
  simp only [List.cons_append, List.nil_append, escN]
  split
  ·unfold escB
   have : uniN (10 :: t) = (-1, 0) := by unfold uniN; rw [dec_ascii t (by decide)]; rfl
   simp [nameN, this]
  ·rfl
 | a :: c :: r => simp only [List.cons_append, escN, escB_nl]
theorem quo_nl (q : Nat) (hq : q ≠ 10) : ∀ (f g : Nat) (u t : List Nat), (u ++ 10 :: t).length ≤ f → u.length ≤ g → quoN q f (u ++ 10 :: t) = quoN q g u
 | 0, g, u, t, h1, h2 => by simp at h1
 | f + 1, g, [], t, h1, h2 => by
  have e : quoN q g [] = 0 := by cases g <;> rfl
  rw [e, List.nil_append]
  simp only [quoN]
  have : shwN (10 :: t) = 0 := by unfold shwN; rw [dec_ascii t (by decide)]; rfl
  rw [if_neg (fun h => hq h.symm), if_neg (by decide), this]; rfl
 | f + 1, 0, c :: r, t, h1, h2 => by simp at h2
 | f + 1, g + 1, c :: r, t, h1, h2 => by
  simp only [List.length_cons, List.length_append, List.cons_append] at h1 h2
  have s1 := (shwN_le r).1
  have s2 := (shwN_le (c :: r)).1
  simp only [List.cons_append, quoN]
  rw [shw_nl, show c :: (r ++ 10 :: t) = (c :: r) ++ 10 :: t from rfl, shw_nl, drop_nl s1, drop_nl s2]
  have a1 := quo_nl q hq f g (r.drop (shwN r)) t (by simp only [List.length_append, List.length_drop, List.length_cons]; omega) (by rw [List.length_drop]; omega)
  rw [a1]
  by_cases h0 : shwN (c :: r) = 0
  ·rw [if_pos h0, if_pos h0]
  ·rw [if_neg h0, if_neg h0]
   have a2 := quo_nl q hq f g ((c :: r).drop (shwN (c :: r))) t (by simp only [List.length_append, List.length_drop, List.length_cons]; omega) (by rw [List.length_drop, List.length_cons]; omega)
   rw [a2]
theorem qtd_nl {q : Nat} (hq : q ≠ 10) (r t : List Nat) : qtdN (q :: r ++ 10 :: t) = qtdN (q :: r) := by
 simp only [List.cons_append, qtdN]
 rw [quo_nl q hq _ r.length r t (Nat.le_refl _) (Nat.le_refl _)]
theorem chr_nl (a : Nat) (r t : List Nat) : chrN (a :: r ++ 10 :: t) = chrN (a :: r) := by
 cases r with
 | nil =>
  simp only [List.cons_append, List.nil_append, chrN]
  have : shwN (10 :: t) = 0 := by unfold shwN; rw [dec_ascii t (by decide)]; rfl
  rw [if_neg (by decide), this]; rfl
 | cons c r =>
  simp only [List.cons_append, chrN]
  rw [show c :: (r ++ 10 :: t) = (c :: r) ++ 10 :: t from rfl, esc_nl, shw_nl]
theorem end_nl {u : List Nat} {n kind : Nat} (h : n ≤ u.length) (t : List Nat) : endN (u ++ 10 :: t) n kind = endN u n kind := by
 unfold endN
 rw [drop_nl h]
 cases u.drop n <;> rfl
theorem hash_nl {u : List Nat} {w : Nat} (h : w ≤ u.length) (t : List Nat) : hashN (u ++ 10 :: t) w = hashN u w := by
 unfold hashN
 rw [drop_nl h, front_nl]
 cases u.drop w <;> rfl
theorem num_nl (u t : List Nat) : numN (u ++ 10 :: t) = numN u := by
 unfold numN
 rw [part_nl, whole_nl, hash_nl (wholeN_le u), end_nl (wholeN_le u), end_nl (partN_le u)]
theorem inn_nl : ∀ (u t : List Nat), innN (u ++ 10 :: t) = innN u
 | [], t => by simp only [List.nil_append, innN]; rfl
 | c :: r, t => by simp only [List.cons_append, innN, inn_nl r t]
theorem line_nl : ∀ (u t : List Nat), 10 ∉ u → lineN (u ++ 10 :: t) = u.length ∧ lineN u = u.length
 | [], t, _ => ⟨rfl, rfl⟩
 | c :: r, t, h => by
  have hc : c ≠ 10 := fun e => h (e ▸ List.mem_cons_self)
  have ih := line_nl r t (fun e => h (List.mem_cons_of_mem _ e))
  simp only [List.cons_append, lineN, if_neg hc, List.length_cons]
  omega
theorem trm_take (t : List Nat) (n : Nat) : ∀ i, i ≤ n → trmN (t.take n) i = trmN t i
 | 0, _ => rfl
 | i + 1, h => by
  have ih := trm_take t n i (by omega)
  simp only [trmN, ih]
  rcases Nat.lt_or_ge i t.length with hi | hi
  ·obtain ⟨c, r, hc, hr, hm, hrl⟩ := dcons hi
   rw [hc, List.drop_take, hc, show n - i = (n - i - 1) + 1 by omega, List.take_succ_cons]
  ·rw [dnil hi, dnil (by rw [List.length_take]; omega)]
theorem cmt_nl (u t : List Nat) (h : 10 ∉ u) : cmtN (u ++ 10 :: t) = cmtN u := by
 obtain ⟨h1, h2⟩ := line_nl u t h
 unfold cmtN
 rw [h1, h2, ← trm_take (u ++ 10 :: t) u.length u.length (Nat.le_refl _), take_nl (Nat.le_refl _), List.take_length]
theorem mac1_nl (n : Nat) (u t : List Nat) : mac1 n (u ++ 10 :: t) = mac1 n u := by
 cases u with
 | nil => rfl
 | cons c r => simp only [List.cons_append, mac1]; rw [show c :: (r ++ 10 :: t) = (c :: r) ++ 10 :: t from rfl, inn_nl]
theorem mac_nl (a : Nat) (r t : List Nat) : macN (a :: r ++ 10 :: t) = macN (a :: r) := by
 cases r with
 | nil => rfl
 | cons c r =>
  simp only [List.cons_append, macN]
  rw [mac1_nl, show c :: (r ++ 10 :: t) = (c :: r) ++ 10 :: t from rfl, mac1_nl]
theorem dot_nl (u t : List Nat) : dotN (u ++ 10 :: t) = dotN u := by cases u <;> rfl
theorem pre_nl : ∀ (l u t : List Nat), 10 ∉ l → preN l (u ++ 10 :: t) = preN l u
 | [], _, _, _ => by simp [preN]
 | x :: l, [], t, h => by
  have hx : x ≠ 10 := fun e => h (e ▸ List.mem_cons_self)
  simp only [List.nil_append, preN]
  rw [decide_eq_false (fun e => hx e.symm)]; rfl
 | x :: l, y :: u, t, h => by
  simp only [List.cons_append, preN]
  rw [pre_nl l u t (fun e => h (List.mem_cons_of_mem _ e))]
theorem fst_nl (u t : List Nat) : ∀ (L : List (List Nat)), (∀ l ∈ L, 10 ∉ l) → fstN L (u ++ 10 :: t) = fstN L u
 | [], _ => rfl
 | l :: L, h => by
  simp only [fstN]
  rw [pre_nl l u t (h l List.mem_cons_self), fst_nl u t L (fun x hx => h x (List.mem_cons_of_mem _ hx))]
theorem lng_nl (u t : List Nat) : lngN (u ++ 10 :: t) = lngN u := fst_nl u t signL (by decide)
theorem one_nl {u : List Nat} (hu : u ≠ []) (h : 10 ∉ u) (t : List Nat) : oneN (u ++ 10 :: t) = oneN u := by
 obtain ⟨c, r, rfl⟩ := List.exists_cons_of_ne_nil hu
 have e1 : cmtN (c :: (r ++ 10 :: t)) = cmtN (c :: r) := cmt_nl (c :: r) t h
 have e2 : numN (c :: (r ++ 10 :: t)) = numN (c :: r) := num_nl (c :: r) t
 have e3 : innN (c :: (r ++ 10 :: t)) = innN (c :: r) := inn_nl (c :: r) t
 have e4 : (c :: (r ++ 10 :: t)).take (innN (c :: r)) = (c :: r).take (innN (c :: r)) := take_nl (innN_le (c :: r)) t
 have e5 : lngN (c :: (r ++ 10 :: t)) = lngN (c :: r) := lng_nl (c :: r) t
 have e6 : macN (c :: (r ++ 10 :: t)) = macN (c :: r) := mac_nl c r t
 have e7 : chrN (c :: (r ++ 10 :: t)) = chrN (c :: r) := chr_nl c r t
 simp only [List.cons_append, oneN, e1, e2, e3, e4, e5, e6, e7, dot_nl]
 by_cases h39 : c = 39
 ·have e8 : qtdN (c :: (r ++ 10 :: t)) = qtdN (c :: r) := qtd_nl (by omega) r t
  simp only [e8]
 ·by_cases h34 : c = 34
  ·have e8 : qtdN (c :: (r ++ 10 :: t)) = qtdN (c :: r) := qtd_nl (by omega) r t
   simp only [e8]
  ·simp only [h39, h34, if_false]
theorem one_line {c : Nat} {x : List Nat} (hc : c ≠ 10) (t : List Nat) : oneN (c :: x ++ 10 :: t) = oneN (c :: x) := by
 by_cases h : 10 ∈ c :: x
 ·obtain ⟨u, w, e, hu⟩ : ∃ u w, c :: x = u ++ 10 :: w ∧ 10 ∉ u := by
   have := List.append_of_mem h
   clear this
   induction x generalizing c with
   | nil =>
    rcases List.mem_cons.1 h with h | h
    ·exact absurd h.symm hc
    ·cases h
   | cons d x ih =>
    by_cases hd : d = 10
    ·subst hd; exact ⟨[c], x, rfl, by simp [Ne.symm hc]⟩
    ·have h' : 10 ∈ d :: x := by
      rcases List.mem_cons.1 h with h | h
      ·exact absurd h.symm hc
      ·exact h
     obtain ⟨u, w, e, hu⟩ := ih hd h'
     exact ⟨c :: u, w, by rw [e]; rfl, by simp only [List.mem_cons, not_or]; exact ⟨Ne.symm hc, hu⟩⟩
  have une : u ≠ [] := by rintro rfl; simp at e; exact hc e.1
  rw [e, List.append_assoc, List.cons_append, one_nl une hu, one_nl une hu]
 ·exact one_nl (by simp) h t
end Go.Proofs.Ytokcjgjgojlhbaa.Am
set_option maxRecDepth 100000
set_option linter.unusedVariables false
set_option linter.unusedSimpArgs false
namespace Go.Proofs.Ytokcjgjgojlhbaa.Am
open Go
theorem escN_no {a : Nat} {r : List Nat} (h : a ≠ 92) : escN (a :: r) = (-1, 0) := by
 cases r with
 | nil => rfl
 | cons c r => simp only [escN, h, if_false]
theorem escape_at {k : Nat} (hk : 10 ≤ k) {s : List Nat} (hs : By s) (hl : Sz s) (a : Nat) : g52 k s (a : Int) = some (escN (s.drop a)) := by
 have hl' := hl
 unfold Sz at hl
 unfold g52
 have fail : ∀ (f : Bool → Option (Int × Int)) (g : (Bool → Option (Int × Int)) → Option (Int × Int)), f true = some (-1, 0) → (∀ j, g j = j true) → escN (s.drop a) = (-1, 0) → jn f g = some (escN (s.drop a)) := by
  intro f g hf hg he
  rw [he]; exact (hg f).trans hf
 rcases Nat.lt_or_ge a s.length with h | h
 ·obtain ⟨c, r, hc, hr, hm, hrl⟩ := dcons h
  have nc := nthX (x := (a : Int)) rfl hc
  by_cases h92 : c = 92
  ·subst h92
   cases hr2 : r with
   | nil =>
    rw [hr2] at hrl hc
    simp only [List.length_nil] at hrl
    refine fail _ _ rfl (fun j => ?_) (by rw [hc]; rfl)
    simp (disch := omega) only [↓reduceIte, ↓jn, gsL, nc]
   | cons d q =>
    rw [hr2] at hr hrl hc
    have d256 := hs d (drop_mem hr)
    simp only [List.length_cons] at hrl
    have nd : nthS s ((a : Int) + 1) = some (d : Int) := nthX (i := a + 1) (by omega) hr
    refine (jS (v := false) (fun j => ?_)).trans ?_
    ·simp (disch := omega) only [↓reduceIte, ↓jn, gsL, nc]
    ·refine iF (by first | (simp (disch := omega) only [↓reduceIte, ↓jn, gsL]; done) | rfl) ?_
     refine bS (by (try simp (disch := omega) only [fwI]); exact nd) ?_
     rw [hc]
     simp only [escN, if_true]
     have dq : s.drop (a + 2) = q := by rw [← List.drop_drop, hc]; rfl
     unfold escB
     by_cases h120 : d = 120
     ·subst h120
      refine iT (by first | (simp (disch := omega) only [↓reduceIte, ↓jn, gsL]; done) | rfl) ?_
      rw [if_pos rfl, hex_at hk hs hl' (a := a) (by omega), dq]
      rfl
     ·rw [if_neg h120]
      refine iF (by first | (simp (disch := omega) only [↓reduceIte, ↓jn, gsL]; done) | rfl) ?_
      by_cases h94 : d = 94
      ·subst h94
       refine iT (by first | (simp (disch := omega) only [↓reduceIte, ↓jn, gsL]; done) | rfl) ?_
       rw [if_pos rfl, control_at k hs hl' (a := a) (by omega), dq]
       rfl
      ·rw [if_neg h94]
       refine iF (by first | (simp (disch := omega) only [↓reduceIte, ↓jn, gsL]; done) | rfl) ?_
       by_cases h8 : 48 ≤ d ∧ d ≤ 55
       ·rw [if_pos h8]
        refine (jS (v := true) (fun j => ?_)).trans ?_
        ·simp (disch := omega) only [↓reduceIte, ↓jn, gsL]
        ·refine iT (by first | (simp (disch := omega) only [↓reduceIte, ↓jn, gsL]; done) | rfl) ?_
         refine (oct_l k hs hl' (a := a) 3 k 1 0 rfl (by omega) (by decide) (by omega)).trans ?_
         rw [hr]
         rfl
       ·rw [if_neg h8]
        refine (jS (v := false) (fun j => ?_)).trans ?_
        ·by_cases h1 : 48 ≤ d
         ·simp (disch := omega) only [↓reduceIte, ↓jn, gsL]
         ·simp (disch := omega) only [↓reduceIte, ↓jn, gsL]
        ·refine iF (by first | (simp (disch := omega) only [↓reduceIte, ↓jn, gsL]; done) | rfl) ?_
         have nx := next_at (k := k) (by omega) hs hl' (a + 1)
         rw [hr] at nx
         have fin : (g31 k s (fwrap .i64 ((a : Int) + 1))).bind (fun x4_3 => if (decide (x4_3.1 < 32)) then (some (((-1) : Int), (0 : Int))) else (some (x4_3.1, fwrap .i64 (x4_3.2 + 1)))) = some (uniN (d :: q)) := by
          rw [fw_s (by omega)]
          refine bS (by (try simp (disch := omega) only [fwI]); exact nx) ?_
          unfold uniN
          obtain ⟨n, n1, n2, n3, n4, -⟩ := dec_size (s := d :: q) (by simp)
          by_cases h32 : (dec (d :: q)).1 < 32
          ·rw [if_pos h32]; refine iT (by first | (simp (disch := omega) only [↓reduceIte, ↓jn, gsL, h32]; done) | rfl) ?_; rfl
          ·rw [if_neg h32]; refine iF (by first | (simp (disch := omega) only [↓reduceIte, ↓jn, gsL, h32]; done) | rfl) ?_; rw [n1, fw_s (by clear n1; omega)]; rfl
         unfold nameN
         by_cases e1 : d = 98
         ·subst e1; rfl
         by_cases e2 : d = 100
         ·subst e2; rfl
         by_cases e3 : d = 101
         ·subst e3; rfl
         by_cases e4 : d = 102
         ·subst e4; rfl
         by_cases e5 : d = 110
         ·subst e5; rfl
         by_cases e6 : d = 114
         ·subst e6; rfl
         by_cases e7 : d = 115
         ·subst e7; rfl
         by_cases e8 : d = 116
         ·subst e8; rfl
         by_cases e9 : d = 118
         ·subst e9; rfl
         rw [dF (p := (d : Int) = 98) (by omega), dF (p := (d : Int) = 100) (by omega), dF (p := (d : Int) = 101) (by omega), dF (p := (d : Int) = 102) (by omega), dF (p := (d : Int) = 110) (by omega), dF (p := (d : Int) = 114) (by omega), dF (p := (d : Int) = 115) (by omega), dF (p := (d : Int) = 116) (by omega), dF (p := (d : Int) = 118) (by omega)]
         simp only [e1, e2, e3, e4, e5, e6, e7, e8, e9, if_false, if_true, Bool.false_eq_true]
         exact fin
  ·have h92' : ¬ (c : Int) = 92 := by omega
   refine fail _ _ rfl (fun j => ?_) (by rw [hc]; exact escN_no h92)
   simp (disch := omega) only [↓reduceIte, ↓jn, gsL, nc, h92']
 ·refine fail _ _ rfl (fun j => ?_) (by rw [dnil h]; rfl)
  simp (disch := omega) only [↓reduceIte, ↓jn, gsL]
end Go.Proofs.Ytokcjgjgojlhbaa.Am
set_option maxRecDepth 100000
set_option linter.unusedVariables false
set_option linter.unusedSimpArgs false
namespace Go.Proofs.Ytokcjgjgojlhbaa.Am
open Go
theorem front_35 {s : List Nat} (h : (frontN s).1 ≠ 0) : ∃ m r, (frontN s).1 = m + 1 ∧ s.drop m = 35 :: r ∧ runN 10 false s = m := by
 have d35 : ¬ dgN 35 < 10 := by decide
 revert h
 unfold frontN
 split
 ·rename_i a b r
  split
  ·rename_i ha
   split
   ·rename_i hb
    subst hb
    split
    ·intro _
     refine ⟨1, r, rfl, rfl, ?_⟩
     simp [runN, ha, d35]
    ·intro h; exact absurd rfl h
   ·split
    ·rename_i hb
     split
     ·rename_i c r'
      split
      ·rename_i hc
       obtain ⟨rfl, -⟩ := hc
       intro _
       refine ⟨2, r', rfl, rfl, ?_⟩
       simp [runN, ha, hb, d35]
      ·intro h; exact absurd rfl h
     ·intro h; exact absurd rfl h
    ·intro h; exact absurd rfl h
  ·intro h; exact absurd rfl h
 ·intro h; exact absurd rfl h
end Go.Proofs.Ytokcjgjgojlhbaa.Am
set_option maxRecDepth 100000
set_option linter.unusedVariables false
set_option linter.unusedSimpArgs false
namespace Go.Proofs.Ytokcjgjgojlhbaa.Am
open Go
theorem more_tk : ∀ (n c : Nat) (r : List Nat) (y m : Nat), moreN n c r = some y → n ≤ m → moreN n c (r.take m) = some y
 | 0, c, r, y, m, h, _ => h
 | n + 1, c, [], y, m, h, _ => by cases h
 | n + 1, c, b :: r, y, 0, h, hm => absurd hm (by omega)
 | n + 1, c, b :: r, y, m + 1, h, hm => by
  simp only [moreN, List.take_succ_cons] at h ⊢
  split at h
  ·rename_i hb
   rw [if_pos hb]
   exact more_tk n _ r y m h (by omega)
  ·cases h
theorem dec_tk {s : List Nat} {m : Nat} (h0 : ¬ (dec s).1 < 0) (hm : (dec s).2 ≤ (m : Int)) : dec (s.take m) = dec s := by
 cases s with
 | nil => simp
 | cons c r =>
  simp only [dec] at h0 hm ⊢
  by_cases hl : (leadN c).1 = 0
  ·rw [if_pos hl] at h0; exact absurd (show ((-1 : Int), (1 : Int)).1 < 0 by decide) h0
  ·rw [if_neg hl] at h0 hm ⊢
   cases hy : moreN ((leadN c).1 - 1) (leadN c).2 r with
   | none => rw [hy] at h0; exact absurd (show ((-1 : Int), (1 : Int)).1 < 0 by decide) h0
   | some y =>
    rw [hy] at h0 hm
    simp only [fitN] at h0 hm
    split at h0
    ·rename_i hf
     rw [if_pos hf] at hm
     have hm : ((leadN c).1 : Int) ≤ (m : Int) := hm
     cases m with
     | zero => omega
     | succ m =>
      simp only [List.take_succ_cons, dec]
      rw [if_neg hl, more_tk _ _ _ _ m hy (by omega)]
    ·exact absurd (show ((-1 : Int), (1 : Int)).1 < 0 by decide) h0
theorem shw_tk {s : List Nat} {m : Nat} (h0 : shwN s ≠ 0) (hm : shwN s ≤ m) : shwN (s.take m) = shwN s := by
 unfold shwN at h0 hm ⊢
 by_cases h : (dec s).1 < 32 ∨ (dec s).1 = 127
 ·rw [if_pos h] at h0; exact absurd rfl h0
 ·rw [if_neg h] at h0 hm
  rw [dec_tk (by omega) (by omega)]
theorem isD_tk {b : Nat} {r : List Nat} {m : Nat} (h : isD b (r.take m) = true) : isD b r = true := by
 cases r with
 | nil => simpa using h
 | cons d r =>
  cases m with
  | zero => simp [isD_nil] at h
  | succ m => simpa [isD_cons] using h
theorem run_tk {b : Nat} : ∀ (p : Bool) (s : List Nat) (m : Nat), runN b p s ≤ m → runN b p (s.take m) = runN b p s
 | p, [], m, _ => by simp
 | p, c :: r, 0, h => by
  have : runN b p (c :: r) = 0 := by omega
  rw [this]; simp [runN]
 | p, c :: r, m + 1, h => by
  rw [List.take_succ_cons]
  rw [runN_cons] at h ⊢
  rw [runN_cons]
  by_cases hc : dgN c < b
  ·rw [if_pos hc] at h ⊢
   rw [if_pos hc, run_tk true r m (by omega)]
  ·rw [if_neg hc] at h ⊢
   rw [if_neg hc]
   by_cases hd : (p && decide (c = 95) && isD b r) = true
   ·rw [if_pos hd] at h ⊢
    simp only [Bool.and_eq_true] at hd
    have hm : 0 < m := by
     cases r with
     | nil => simp [isD_nil] at hd
     | cons d r =>
      have := hd.2
      rw [isD_cons, decide_eq_true_eq] at this
      rw [runN_cons, if_pos this] at h
      omega
    have : isD b (r.take m) = true := by
     cases r with
     | nil => simp [isD_nil] at hd
     | cons d r =>
      obtain ⟨m', rfl⟩ : ∃ m', m = m' + 1 := ⟨m - 1, by omega⟩
      simpa [isD_cons] using hd.2
    rw [if_pos (by rw [this]; simp [hd.1]), run_tk false r m (by omega)]
   ·rw [if_neg hd] at h ⊢
    rw [if_neg]
    intro h2
    simp only [Bool.and_eq_true] at h2
    exact hd (by simp only [Bool.and_eq_true]; exact ⟨h2.1, isD_tk h2.2⟩)
theorem wholeN_eq (s : List Nat) : wholeN s = if 0 < (frontN s).1 ∧ 0 < runN (frontN s).2 false (s.drop (frontN s).1) then (frontN s).1 + runN (frontN s).2 false (s.drop (frontN s).1) else runN 10 false s := rfl
theorem partN_eq (s : List Nat) : partN s = if runN 10 false s = 0 then 0 else fracN (runN 10 false s) (s.drop (runN 10 false s)) := rfl
theorem cmtN_eq (s : List Nat) : cmtN s = trmN s (lineN s) := rfl
theorem take_drop' (s : List Nat) (n k : Nat) : (s.take n).drop k = (s.drop k).take (n - k) := by rw [List.drop_take]
theorem front_v (s : List Nat) : frontN s = (0, 10) ∨ (frontN s).1 = 2 ∨ (frontN s).1 = 3 := by
 unfold frontN
 repeat' split
 all_goals simp
theorem front_tk : ∀ (s : List Nat) (m : Nat), (frontN s).1 ≤ m → frontN (s.take m) = frontN s
 | [], m, _ => by simp
 | [a], 0, _ => rfl
 | [a], m + 1, _ => by simp
 | a :: b :: r, 0, h => by
  rcases front_v (a :: b :: r) with h1 | h1 | h1
  ·rw [h1]; rfl
  ·omega
  ·omega
 | a :: b :: r, 1, h => by
  rcases front_v (a :: b :: r) with h1 | h1 | h1
  ·rw [h1]; rfl
  ·omega
  ·omega
 | [a, b], m + 2, _ => by simp
 | a :: b :: c :: r, 2, h => by
  simp only [List.take_succ_cons, List.take_zero]
  simp only [frontN] at h ⊢
  by_cases ha : dgN a < 10
  ·simp only [ha, if_true] at h ⊢
   by_cases hb : b = 35
   ·simp only [hb, if_true]
   ·simp only [hb, if_false] at h ⊢
    by_cases hb2 : dgN b < 10
    ·simp only [hb2, if_true] at h ⊢
     split at h
     ·simp at h
     ·rename_i hx; rw [if_neg hx]
    ·simp only [hb2, if_false]
  ·simp only [ha, if_false]
 | a :: b :: c :: r, m + 3, _ => by simp only [List.take_succ_cons]; rfl
theorem whole_tk {s : List Nat} (h : (frontN s).1 ≤ wholeN s) : wholeN (s.take (wholeN s)) = wholeN s := by
 have hf := front_tk s (wholeN s) h
 by_cases hc : 0 < (frontN s).1 ∧ 0 < runN (frontN s).2 false (s.drop (frontN s).1)
 ·have hw : wholeN s = (frontN s).1 + runN (frontN s).2 false (s.drop (frontN s).1) := by unfold wholeN; rw [if_pos hc]
  have hr : runN (frontN s).2 false ((s.take (wholeN s)).drop (frontN s).1) = runN (frontN s).2 false (s.drop (frontN s).1) := by
   rw [take_drop', hw, Nat.add_sub_cancel_left, run_tk _ _ _ (Nat.le_refl _)]
  rw [wholeN_eq (s.take (wholeN s)), hf, hr, if_pos hc]
  exact hw.symm
 ·have hw : wholeN s = runN 10 false s := by unfold wholeN; rw [if_neg hc]
  have h0 : (frontN s).1 = 0 := by
   rcases Nat.eq_zero_or_pos (frontN s).1 with h1 | h1
   ·exact h1
   ·obtain ⟨m, r, e1, e2, e3⟩ := front_35 (s := s) (by omega)
    omega
  rw [wholeN_eq (s.take (wholeN s)), hf, if_neg (by omega), hw, run_tk _ _ _ (Nat.le_refl _)]
theorem exp_tk (s : List Nat) : expN (s.take (expN s)) = expN s := by
 cases s with
 | nil => rfl
 | cons e q =>
  by_cases hE : e = 101 ∨ e = 69
  ·by_cases hz : 0 < runN 10 false (q.drop (sgn q))
   ·have hv : expN (e :: q) = 1 + sgn q + runN 10 false (q.drop (sgn q)) := by simp only [expN, hE, hz, if_true]
    rw [hv]
    have e1 : 1 + sgn q + runN 10 false (q.drop (sgn q)) = (sgn q + runN 10 false (q.drop (sgn q))) + 1 := by omega
    rw [e1, List.take_succ_cons]
    have hs : sgn (q.take (sgn q + runN 10 false (q.drop (sgn q)))) = sgn q := by
     cases q with
     | nil => rfl
     | cons c r =>
      obtain ⟨m, hm⟩ : ∃ m, sgn (c :: r) + runN 10 false ((c :: r).drop (sgn (c :: r))) = m + 1 := ⟨_, (Nat.succ_pred_eq_of_pos (by omega)).symm⟩
      rw [hm]; rfl
    simp only [expN, hE, if_true]
    rw [hs, take_drop', Nat.add_sub_cancel_left, run_tk _ _ _ (Nat.le_refl _), if_pos hz]
    omega
   ·have hv : expN (e :: q) = 0 := by simp only [expN, hE, hz, if_true, if_false]
    rw [hv]; rfl
  ·have hv : expN (e :: q) = 0 := by simp only [expN, hE, if_false]
   rw [hv]; rfl
theorem part_tk {s : List Nat} (h : partN s ≠ 0) : partN (s.take (partN s)) = partN s := by
 by_cases h0 : runN 10 false s = 0
 ·exact absurd (by unfold partN; rw [if_pos h0]) h
 ·cases hd : s.drop (runN 10 false s) with
  | nil => exact absurd (by unfold partN; rw [if_neg h0, hd]; rfl) h
  | cons c r =>
   by_cases h46 : c = 46
   ·by_cases hm : runN 10 false r = 0
    ·exact absurd (by unfold partN; rw [if_neg h0, hd]; simp only [fracN, h46, hm, if_true]) h
    ·have hv : partN s = runN 10 false s + 1 + runN 10 false r + expN (r.drop (runN 10 false r)) := by
      unfold partN; rw [if_neg h0, hd]; simp only [fracN, h46, hm, if_true, if_false]
     have hr : runN 10 false (s.take (partN s)) = runN 10 false s := run_tk _ _ _ (by omega)
     have hd2 : (s.take (partN s)).drop (runN 10 false s) = c :: r.take (runN 10 false r + expN (r.drop (runN 10 false r))) := by
      rw [take_drop', hd, hv, show runN 10 false s + 1 + runN 10 false r + expN (r.drop (runN 10 false r)) - runN 10 false s = (runN 10 false r + expN (r.drop (runN 10 false r))) + 1 by omega, List.take_succ_cons]
     rw [partN_eq (s.take (partN s)), hr, if_neg h0, hd2]
     simp only [fracN, h46, if_true]
     rw [run_tk _ _ _ (by omega), if_neg hm, take_drop', Nat.add_sub_cancel_left, exp_tk]
     exact hv.symm
   ·exact absurd (by unfold partN; rw [if_neg h0, hd]; simp only [fracN, h46, if_false]) h
theorem part_0 {s : List Nat} (h : (frontN s).1 ≤ wholeN s) : partN (s.take (wholeN s)) = 0 := by
 by_cases hc : (frontN s).1 = 0
 ·have hw : wholeN s = runN 10 false s := by unfold wholeN; rw [if_neg (by omega)]
  unfold partN
  rw [hw, run_tk _ _ _ (Nat.le_refl _), take_drop', Nat.sub_self, List.take_zero]
  split <;> rfl
 ·obtain ⟨m, r, h1, h2, h3⟩ := front_35 hc
  unfold partN
  rw [run_tk _ _ _ (by omega), h3, take_drop', h2, show wholeN s - m = (wholeN s - m - 1) + 1 by omega, List.take_succ_cons]
  simp only [fracN]
  rw [if_neg (show ¬ 35 = 46 by decide)]
  split <;> rfl
theorem end_v (s : List Nat) (n kind : Nat) : endN s n kind = (0, 0) ∨ endN s n kind = (n, kind) := by
 unfold endN; repeat' split
 all_goals simp
theorem end_tk (s : List Nat) (n kind : Nat) : endN (s.take n) n kind = (n, kind) := by
 unfold endN; rw [take_drop', Nat.sub_self, List.take_zero]
theorem num_tk {s : List Nat} (h : (numN s).1 ≠ 0) : numN (s.take (numN s).1) = numN s := by
 by_cases hp : partN s = 0
 ·by_cases hh : hashN s (wholeN s) = true
  ·exact absurd (by unfold numN; rw [if_pos hp, if_pos hh]) h
  ·have hn : numN s = endN s (wholeN s) 3 := by unfold numN; rw [if_pos hp, if_neg hh]
   rcases end_v s (wholeN s) 3 with e | e
   ·rw [hn, e] at h; exact absurd rfl h
   ·rw [hn, e]
    have hf : (frontN s).1 ≤ wholeN s := by
     rcases Nat.lt_or_ge (wholeN s) (frontN s).1 with hlt | hge
     ·exfalso
      apply hh
      obtain ⟨m, r, h1, h2, h3⟩ := front_35 (s := s) (by omega)
      have hz : ¬ 0 < runN (frontN s).2 false (s.drop (frontN s).1) := by
       intro hz
       have : wholeN s = (frontN s).1 + runN (frontN s).2 false (s.drop (frontN s).1) := by unfold wholeN; rw [if_pos ⟨by omega, hz⟩]
       omega
      have hw : wholeN s = m := by unfold wholeN; rw [if_neg (fun h => hz h.2), h3]
      unfold hashN
      rw [hw, h2]
      simp only [Bool.and_eq_true, Bool.or_eq_true, decide_eq_true_eq]
      exact ⟨trivial, .inr (by omega)⟩
     ·exact hge
    unfold numN
    rw [part_0 hf, if_pos rfl, whole_tk hf, if_neg, end_tk]
    unfold hashN
    rw [take_drop', Nat.sub_self, List.take_zero]
    simp
 ·have hn : numN s = endN s (partN s) 4 := by unfold numN; rw [if_neg hp]
  rcases end_v s (partN s) 4 with e | e
  ·rw [hn, e] at h; exact absurd rfl h
  ·rw [hn, e]
   unfold numN
   rw [part_tk hp, if_neg hp, end_tk]
theorem digV_tk {b : Nat} : ∀ (k v : Nat) (s : List Nat) (m : Nat), (digV b k v s).2 ≤ m → digV b k v (s.take m) = digV b k v s
 | 0, v, s, m, _ => by simp only [digV]
 | k + 1, v, [], m, _ => by simp
 | k + 1, v, c :: r, 0, h => by
  simp only [digV] at h
  split at h
  ·simp at h
  ·rename_i hc; simp only [List.take_zero, digV, hc, if_false]
 | k + 1, v, c :: r, m + 1, h => by
  simp only [List.take_succ_cons, digV] at h ⊢
  split at h
  ·rename_i hc
   rw [if_pos hc, if_pos hc, digV_tk k _ r m (by simpa using h)]
  ·rename_i hc; rw [if_neg hc, if_neg hc]
theorem esc_tk {s : List Nat} {m : Nat} (h0 : 0 < (escN s).2) (hm : (escN s).2 ≤ (m : Int)) : escN (s.take m) = escN s := by
 rcases escN_cases s with e | ⟨v, n, e, h2, h3⟩
 ·rw [e] at h0; exact absurd h0 (by decide)
 ·match s, h3 with
  | [], h3 => simp at h3; omega
  | [a], h3 => simp at h3; omega
  | a :: c :: r, _ =>
   rw [e] at hm
   have hm : (n : Int) ≤ (m : Int) := hm
   obtain ⟨m, rfl⟩ : ∃ k, m = k + 2 := ⟨m - 2, by omega⟩
   simp only [List.take_succ_cons, escN] at e ⊢
   by_cases h92 : a = 92
   ·rw [if_pos h92] at e
    rw [if_pos h92, if_pos h92]
    unfold escB at e ⊢
    by_cases h120 : c = 120
    ·rw [if_pos h120] at e
     rw [if_pos h120, if_pos h120]
     cases r with
     | nil => simp
     | cons d q =>
      simp only [hexN] at e
      by_cases h123 : d = 123
      ·rw [if_pos h123] at e
       unfold hexBr at e
       split at e
       ·have := (Prod.ext_iff.1 e).1; simp at this
       ·rename_i hk
        split at e
        ·rename_i z qq hz
         split at e
         ·rename_i hcond
          have en := (Prod.ext_iff.1 e).2
          have en : ((4 + (digV 16 6 0 q).2 : Nat) : Int) = (n : Int) := en
          obtain ⟨m, rfl⟩ : ∃ k, m = k + 1 := ⟨m - 1, by omega⟩
          simp only [List.take_succ_cons, hexN, h123, if_true]
          unfold hexBr
          rw [digV_tk _ _ _ _ (by omega), if_neg hk, if_neg hk, take_drop', hz, show m - (digV 16 6 0 q).2 = (m - (digV 16 6 0 q).2 - 1) + 1 by omega, List.take_succ_cons]
         ·have := (Prod.ext_iff.1 e).1; simp at this
        ·have := (Prod.ext_iff.1 e).1; simp at this
      ·rw [if_neg h123] at e
       unfold hex2 at e
       split at e
       ·have := (Prod.ext_iff.1 e).1; simp at this
       ·rename_i hk
        have en := (Prod.ext_iff.1 e).2
        have en : (4 : Int) = (n : Int) := en
        have dl := (digV_le 16 2 0 (d :: q)).1
        obtain ⟨m, rfl⟩ : ∃ k, m = k + 1 := ⟨m - 1, by omega⟩
        have e2 : hexN ((d :: q).take (m + 1)) = hex2 ((d :: q).take (m + 1)) := by simp only [List.take_succ_cons, hexN, h123, if_false]
        have e3 : hexN (d :: q) = hex2 (d :: q) := by simp only [hexN, h123, if_false]
        rw [e2, e3]
        unfold hex2
        rw [digV_tk _ _ _ _ (by omega)]
    ·rw [if_neg h120] at e
     rw [if_neg h120, if_neg h120]
     by_cases h94 : c = 94
     ·rw [if_pos h94] at e
      rw [if_pos h94, if_pos h94]
      cases r with
      | nil => simp
      | cons d q =>
       simp only [ctlN] at e
       split at e
       ·have := (Prod.ext_iff.1 e).1; simp at this
       ·have en := (Prod.ext_iff.1 e).2
        have en : (3 : Int) = (n : Int) := en
        obtain ⟨m, rfl⟩ : ∃ k, m = k + 1 := ⟨m - 1, by omega⟩
        rfl
     ·rw [if_neg h94] at e
      rw [if_neg h94, if_neg h94]
      by_cases h8 : 48 ≤ c ∧ c ≤ 55
      ·rw [if_pos h8] at e
       rw [if_pos h8, if_pos h8]
       have en := (Prod.ext_iff.1 e).2
       have en : ((1 + (digV 8 3 0 (c :: r)).2 : Nat) : Int) = (n : Int) := en
       unfold octN
       rw [← List.take_succ_cons, digV_tk _ _ _ _ (by omega)]
      ·rw [if_neg h8] at e
       rw [if_neg h8, if_neg h8]
       by_cases hn : nameN c = 0
       ·rw [if_pos hn] at e
        rw [if_pos hn, if_pos hn]
        unfold uniN at e ⊢
        by_cases h32 : (dec (c :: r)).1 < 32
        ·rw [if_pos h32] at e
         have := (Prod.ext_iff.1 e).1; simp at this
        ·rw [if_neg h32] at e
         have en := (Prod.ext_iff.1 e).2
         have en : (dec (c :: r)).2 + 1 = (n : Int) := en
         rw [← List.take_succ_cons, dec_tk (by omega) (by omega)]
       ·rw [if_neg hn, if_neg hn]
   ·rw [if_neg h92, if_neg h92]
theorem quo_tk (q : Nat) : ∀ (f g : Nat) (s : List Nat), quoN q f s ≠ 0 → quoN q f s ≤ g → quoN q g (s.take (quoN q f s)) = quoN q f s
 | 0, g, s, h, _ => absurd rfl h
 | f + 1, g, [], h, _ => absurd rfl h
 | f + 1, g, c :: r, h, hg => by
  obtain ⟨g, rfl⟩ : ∃ g', g = g' + 1 := ⟨g - 1, by omega⟩
  simp only [quoN] at h hg ⊢
  by_cases hq : c = q
  ·rw [if_pos hq, List.take_succ_cons]
   simp only [quoN]
   rw [if_pos hq]
  ·rw [if_neg hq] at h hg ⊢
   by_cases h92 : c = 92
   ·rw [if_pos h92] at h hg ⊢
    by_cases hk : shwN r = 0
    ·rw [if_pos hk] at h; exact absurd rfl h
    ·rw [if_neg hk] at h hg ⊢
     unfold bmp at h hg ⊢
     by_cases hm : quoN q f (r.drop (shwN r)) = 0
     ·rw [if_pos hm] at h; exact absurd rfl h
     ·rw [if_neg hm] at h hg ⊢
      rw [show 1 + shwN r + quoN q f (r.drop (shwN r)) = (shwN r + quoN q f (r.drop (shwN r))) + 1 by omega, List.take_succ_cons]
      simp only [quoN]
      rw [if_neg hq, if_pos h92, shw_tk hk (by omega), if_neg hk, take_drop', Nat.add_sub_cancel_left, quo_tk q f g _ hm (by omega)]
      unfold bmp
      rw [if_neg hm]; omega
   ·rw [if_neg h92] at h hg ⊢
    by_cases hk : shwN (c :: r) = 0
    ·rw [if_pos hk] at h; exact absurd rfl h
    ·rw [if_neg hk] at h hg ⊢
     unfold bmp at h hg ⊢
     by_cases hm : quoN q f ((c :: r).drop (shwN (c :: r))) = 0
     ·rw [if_pos hm] at h; exact absurd rfl h
     ·rw [if_neg hm] at h hg ⊢
      have e1 : (c :: r).take (shwN (c :: r) + quoN q f ((c :: r).drop (shwN (c :: r)))) = c :: r.take (shwN (c :: r) - 1 + quoN q f ((c :: r).drop (shwN (c :: r)))) := by
       rw [show shwN (c :: r) + quoN q f ((c :: r).drop (shwN (c :: r))) = (shwN (c :: r) - 1 + quoN q f ((c :: r).drop (shwN (c :: r)))) + 1 by omega, List.take_succ_cons]
      have e2 := shw_tk (s := c :: r) (m := shwN (c :: r) + quoN q f ((c :: r).drop (shwN (c :: r)))) hk (by omega)
      rw [e1]
      rw [e1] at e2
      simp only [quoN]
      rw [if_neg hq, if_neg h92, e2, if_neg hk, ← e1, take_drop', Nat.add_sub_cancel_left, quo_tk q f g _ hm (by omega)]
      unfold bmp
      rw [if_neg hm]
theorem qtd_tk {q : Nat} {r : List Nat} (h : qtdN (q :: r) ≠ 0) : qtdN ((q :: r).take (qtdN (q :: r))) = qtdN (q :: r) := by
 simp only [qtdN] at h ⊢
 unfold bmp at h ⊢
 by_cases hm : quoN q r.length r = 0
 ·rw [if_pos hm] at h; exact absurd rfl h
 ·rw [if_neg hm, Nat.add_comm 1, List.take_succ_cons]
  have hl := quoN_le q r.length r
  simp only []
  rw [List.length_take, Nat.min_eq_left hl, quo_tk q _ _ _ hm (Nat.le_refl _), if_neg hm, Nat.add_comm]
theorem chr_tk {a : Nat} {r : List Nat} (h : chrN (a :: r) ≠ 0) : chrN ((a :: r).take (chrN (a :: r))) = chrN (a :: r) := by
 cases r with
 | nil => exact absurd rfl h
 | cons c r =>
  by_cases h92 : c = 92
  ·by_cases h0 : 0 < (escN (c :: r)).2
   ·have hv : chrN (a :: c :: r) = (escN (c :: r)).2.toNat + 1 := by simp only [chrN, if_pos h92, if_pos h0]
    rcases escN_cases (c :: r) with e | ⟨v, n, e, h2, h3⟩
    ·rw [e] at h0; exact absurd h0 (by decide)
    ·have et := esc_tk (s := c :: r) (m := n) h0 (by rw [e]; exact Int.le_refl _)
     rw [hv, e]
     simp only [Int.toNat_natCast, List.take_succ_cons]
     obtain ⟨n, rfl⟩ : ∃ k, n = k + 1 := ⟨n - 1, by omega⟩
     rw [List.take_succ_cons] at et ⊢
     simp only [chrN, if_pos h92]
     rw [et, e, if_pos (by show (0 : Int) < ((n + 1 : Nat) : Int); omega)]
     simp
   ·exact absurd (by simp only [chrN, if_pos h92, if_neg h0]) h
  ·by_cases hk : shwN (c :: r) ≠ 0 ∧ c ≠ 32
   ·have hv : chrN (a :: c :: r) = shwN (c :: r) + 1 := by simp only [chrN, if_neg h92, if_pos hk]
    have et := shw_tk (s := c :: r) (m := shwN (c :: r)) hk.1 (Nat.le_refl _)
    rw [hv, List.take_succ_cons]
    obtain ⟨n, hn⟩ : ∃ k, shwN (c :: r) = k + 1 := ⟨shwN (c :: r) - 1, by omega⟩
    rw [hn, List.take_succ_cons] at et ⊢
    simp only [chrN, if_neg h92]
    rw [et, if_pos ⟨by omega, hk.2⟩]
   ·exact absurd (by simp only [chrN, if_neg h92, if_neg hk]) h
theorem inn_tk : ∀ (s : List Nat), innN (s.take (innN s)) = innN s
 | [] => rfl
 | c :: r => by
  simp only [innN]
  by_cases h : inrN c = true
  ·rw [if_pos h, List.take_succ_cons]
   simp only [innN, if_pos h, inn_tk r]
  ·rw [if_neg h]; rfl
theorem trm_fix (s : List Nat) : ∀ i, trmN s (trmN s i) = trmN s i
 | 0 => rfl
 | i + 1 => by
  have ih := trm_fix s i
  have hs : trmN s (i + 1) = match s.drop i with | c :: _ => if blkN c then trmN s i else i + 1 | [] => i + 1 := rfl
  cases hd : s.drop i with
  | nil => rw [hd] at hs; simp only [] at hs; rw [hs]; exact hs
  | cons c r =>
   rw [hd] at hs
   simp only [] at hs
   by_cases hb : blkN c = true
   ·rw [if_pos hb] at hs; rw [hs]; exact ih
   ·rw [if_neg hb] at hs; rw [hs]; exact hs
theorem cmt_tk (s : List Nat) : cmtN (s.take (cmtN s)) = cmtN s := by
 have h1 : cmtN s ≤ lineN s := trmN_le _ _
 have h2 := lineN_le s
 have h10 : 10 ∉ s.take (cmtN s) := by
  intro h
  have : ∀ s : List Nat, 10 ∉ s.take (lineN s) := by
   intro s
   induction s with
   | nil => simp
   | cons c r ih =>
    intro h
    simp only [lineN] at h
    split at h
    ·simp at h
    ·rename_i hc
     rw [List.take_succ_cons] at h
     rcases List.mem_cons.1 h with e | e
     ·exact hc e.symm
     ·exact ih e
  apply this s
  rw [← Nat.min_eq_left h1, ← List.take_take] at h
  exact List.mem_of_mem_take h
 have hl := (line_nl (s.take (cmtN s)) [] h10).2
 rw [List.length_take, Nat.min_eq_left (by omega)] at hl
 rw [cmtN_eq (s.take (cmtN s)), hl, trm_take _ _ _ (Nat.le_refl _)]
 exact trm_fix s (lineN s)
theorem mac1_tk {n : Nat} {t : List Nat} (h : mac1 n t ≠ 0) : mac1 n t = n + innN t ∧ mac1 n (t.take (innN t)) = n + innN t := by
 cases t with
 | nil => exact absurd rfl h
 | cons c r =>
  by_cases hb : begN c = 1 ∨ begN c = 2
  ·have hi : inrN c = true := by unfold inrN; rcases hb with hb | hb <;> rw [hb] <;> rfl
   have hv : innN (c :: r) = innN r + 1 := by simp only [innN, if_pos hi]
   refine ⟨by simp only [mac1, if_pos hb], ?_⟩
   rw [hv, List.take_succ_cons]
   simp only [mac1, if_pos hb, innN, if_pos hi, inn_tk]
  ·exact absurd (by simp only [mac1, if_neg hb]) h
theorem mac_tk {a : Nat} {r : List Nat} (h : macN (a :: r) ≠ 0) : macN ((a :: r).take (macN (a :: r))) = macN (a :: r) := by
 cases r with
 | nil => exact absurd rfl h
 | cons c r =>
  by_cases h63 : c = 63
  ·have hv : macN (a :: c :: r) = mac1 2 r := by simp only [macN, if_pos h63]
   rw [hv] at h
   obtain ⟨h1, h2⟩ := mac1_tk h
   rw [hv, h1, show 2 + innN r = innN r + 1 + 1 by omega, List.take_succ_cons, List.take_succ_cons]
   simp only [macN, if_pos h63, h2]; omega
  ·have hv : macN (a :: c :: r) = mac1 1 (c :: r) := by simp only [macN, if_neg h63]
   rw [hv] at h
   obtain ⟨h1, h2⟩ := mac1_tk h
   rw [hv, h1, show 1 + innN (c :: r) = innN (c :: r) + 1 by omega, List.take_succ_cons]
   have hi : innN (c :: r) ≠ 0 := by
    intro e
    rw [e] at h2
    simp [mac1] at h2
   obtain ⟨n, hn⟩ : ∃ k, innN (c :: r) = k + 1 := ⟨innN (c :: r) - 1, by omega⟩
   rw [hn, List.take_succ_cons] at h2 ⊢
   simp only [macN, if_neg h63, h2]; omega
theorem pre_tk : ∀ (l s : List Nat), preN l s = true → preN l (s.take l.length) = true
 | [], s, _ => by simp [preN]
 | x :: l, [], h => by simp [preN] at h
 | x :: l, y :: s, h => by
  simp only [List.length_cons, List.take_succ_cons, preN, Bool.and_eq_true] at h ⊢
  exact ⟨h.1, pre_tk l s h.2⟩
theorem pre_of_tk : ∀ (l s : List Nat) (m : Nat), preN l (s.take m) = true → preN l s = true
 | [], s, m, _ => by simp [preN]
 | x :: l, [], m, h => by simp [preN] at h
 | x :: l, y :: s, 0, h => by simp [preN] at h
 | x :: l, y :: s, m + 1, h => by
  simp only [List.take_succ_cons, preN, Bool.and_eq_true] at h ⊢
  exact ⟨h.1, pre_of_tk l s m h.2⟩
theorem fst_tk (s : List Nat) : ∀ (L : List (List Nat)), (∀ l ∈ L, l ≠ []) → fstN L (s.take (fstN L s)) = fstN L s
 | [], _ => rfl
 | l :: L, hL => by
  have ih := fst_tk s L (fun x hx => hL x (List.mem_cons_of_mem _ hx))
  by_cases h : preN l s = true
  ·have e : fstN (l :: L) s = l.length := by simp only [fstN, if_pos h]
   rw [e]; simp only [fstN, if_pos (pre_tk l s h)]
  ·have e : fstN (l :: L) s = fstN L s := by simp only [fstN, if_neg h]
   rw [e]
   simp only [fstN]
   by_cases h2 : preN l (s.take (fstN L s)) = true
   ·exact absurd (pre_of_tk _ _ _ h2) h
   ·rw [if_neg h2]; exact ih
theorem lng_tk (s : List Nat) : lngN (s.take (lngN s)) = lngN s := fst_tk s signL (by decide)
theorem one_tk {s : List Nat} (h : (oneN s).1 ≠ 0) : oneN (s.take (oneN s).1) = ((oneN s).1, if s.take (oneN s).1 = [46] then 10 else (oneN s).2) := by
 cases s with
 | nil => exact absurd rfl h
 | cons c r =>
  have tk : ∀ n, n ≠ 0 → (c :: r).take n = c :: r.take (n - 1) := by
   intro n hn
   obtain ⟨n, rfl⟩ : ∃ k, n = k + 1 := ⟨n - 1, by omega⟩
   rfl
  have no : ∀ n, n ≠ 0 → c ≠ 46 → ¬ (c :: r).take n = [46] := by
   intro n hn hc e
   rw [tk n hn] at e
   exact hc (List.cons.inj e).1
  by_cases h37 : c = 37
  ·have e : oneN (c :: r) = (cmtN (c :: r), 11) := by simp only [oneN, if_pos h37]
   rw [e] at h ⊢
   have et := cmt_tk (c :: r)
   simp only [] at h ⊢
   rw [if_neg (no _ h (by omega)), tk _ h] at *
   simp only [oneN, if_pos h37, et]
  ·by_cases h46 : c = 46 ∧ dotN r = true
   ·have e : oneN (c :: r) = (1, 10) := by simp only [oneN, if_neg h37, if_pos h46]
    rw [e]
    simp only [List.take_succ_cons, List.take_zero, h46.1]
    rfl
   ·by_cases h39 : c = 39
    ·have e : oneN (c :: r) = (qtdN (c :: r), 1) := by simp only [oneN, if_neg h37, if_neg h46, if_pos h39]
     rw [e] at h ⊢
     have et := qtd_tk h
     simp only [] at h ⊢
     rw [if_neg (no _ h (by omega)), tk _ h] at *
     subst h39
     simp only [oneN]
     rw [if_neg (by decide), if_neg (by simp), if_pos trivial, et]
    ·by_cases h34 : c = 34
     ·have e : oneN (c :: r) = (qtdN (c :: r), 6) := by simp only [oneN, if_neg h37, if_neg h46, if_neg h39, if_pos h34]
      rw [e] at h ⊢
      have et := qtd_tk h
      simp only [] at h ⊢
      rw [if_neg (no _ h (by omega)), tk _ h] at *
      subst h34
      simp only [oneN]
      rw [if_neg (by decide), if_neg (by simp), if_neg (by decide), if_pos trivial, et]
     ·by_cases h36 : c = 36
      ·have e : oneN (c :: r) = (chrN (c :: r), 5) := by simp only [oneN, if_neg h37, if_neg h46, if_neg h39, if_neg h34, if_pos h36]
       rw [e] at h ⊢
       have et := chr_tk h
       simp only [] at h ⊢
       rw [if_neg (no _ h (by omega)), tk _ h] at *
       subst h36
       simp only [oneN]
       rw [if_neg (by decide), if_neg (by simp), if_neg (by decide), if_neg (by decide), if_pos trivial, et]
      ·by_cases h63 : c = 63
       ·have e : oneN (c :: r) = (macN (c :: r), 7) := by simp only [oneN, if_neg h37, if_neg h46, if_neg h39, if_neg h34, if_neg h36, if_pos h63]
        rw [e] at h ⊢
        have et := mac_tk h
        simp only [] at h ⊢
        rw [if_neg (no _ h (by omega)), tk _ h] at *
        subst h63
        simp only [oneN]
        rw [if_neg (by decide), if_neg (by simp), if_neg (by decide), if_neg (by decide), if_neg (by decide), if_pos trivial, et]
       ·by_cases h3 : begN c = 3
        ·have c46 : c ≠ 46 := by intro e; subst e; revert h3; decide
         have e : oneN (c :: r) = numN (c :: r) := by simp only [oneN, if_neg h37, if_neg h46, if_neg h39, if_neg h34, if_neg h36, if_neg h63, if_pos h3]
         rw [e] at h ⊢
         have et := num_tk h
         rw [if_neg (no _ h c46), tk _ h] at *
         have : ¬ (c = 46 ∧ dotN (r.take ((numN (c :: r)).1 - 1)) = true) := fun h => c46 h.1
         simp only [oneN, if_neg h37, if_neg this, if_neg h39, if_neg h34, if_neg h36, if_neg h63, if_pos h3, et]
        ·by_cases h12 : begN c = 1 ∨ begN c = 2
         ·have c46 : c ≠ 46 := by intro e; subst e; revert h12; decide
          have e : oneN (c :: r) = (innN (c :: r), if rsvN ((c :: r).take (innN (c :: r))) then 8 else begN c) := by simp only [oneN, if_neg h37, if_neg h46, if_neg h39, if_neg h34, if_neg h36, if_neg h63, if_neg h3, if_pos h12]
          rw [e] at h ⊢
          simp only [] at h ⊢
          have et := inn_tk (c :: r)
          have ett : ((c :: r).take (innN (c :: r))).take (innN (c :: r)) = (c :: r).take (innN (c :: r)) := by rw [List.take_take, Nat.min_self]
          rw [if_neg (no _ h c46)]
          rw [tk _ h] at et ett ⊢
          have : ¬ (c = 46 ∧ dotN (r.take (innN (c :: r) - 1)) = true) := fun h => c46 h.1
          simp only [oneN, if_neg h37, if_neg this, if_neg h39, if_neg h34, if_neg h36, if_neg h63, if_neg h3, if_pos h12, et, ett]
         ·have e : oneN (c :: r) = (lngN (c :: r), 9) := by simp only [oneN, if_neg h37, if_neg h46, if_neg h39, if_neg h34, if_neg h36, if_neg h63, if_neg h3, if_neg h12]
          rw [e] at h ⊢
          simp only [] at h ⊢
          have et := lng_tk (c :: r)
          by_cases h1 : (c :: r).take (lngN (c :: r)) = [46]
          ·rw [if_pos h1]
           have hl := congrArg List.length h1
           rw [List.length_take] at hl
           have ll : lngN (c :: r) ≤ (c :: r).length := fstN_le _ _
           rw [Nat.min_eq_left ll] at hl
           rw [h1, hl]; rfl
          ·rw [if_neg h1]
           have : ¬ (c = 46 ∧ dotN (r.take (lngN (c :: r) - 1)) = true) := by
            rintro ⟨rfl, hd⟩
            apply h1
            have l1 : lngN (46 :: r) = 1 := by
             have e4 : preN [46] (46 :: r) = true := by simp [preN]
             simp [lngN, signL, fstN, preN]
            rw [l1]; rfl
           rw [tk _ h] at et ⊢
           simp only [oneN, if_neg h37, if_neg this, if_neg h39, if_neg h34, if_neg h36, if_neg h63, if_neg h3, if_neg h12, et]
end Go.Proofs.Ytokcjgjgojlhbaa.Am
set_option maxRecDepth 100000
set_option linter.unusedVariables false
set_option linter.unusedSimpArgs false
namespace Go.Proofs.Ytokcjgjgojlhbaa.Am
open Go
theorem moreN_app : ∀ (n c : Nat) (a b : List Nat) (y : Nat), moreN n c a = some y → moreN n c (a ++ b) = some y
 | 0, c, a, b, y, h => h
 | n + 1, c, [], b, y, h => by cases h
 | n + 1, c, x :: a, b, y, h => by
  have e1 : moreN (n + 1) c (x :: a) = if x / 64 = 2 then moreN n (c * 64 + x % 64) a else none := rfl
  have e2 : moreN (n + 1) c (x :: a ++ b) = if x / 64 = 2 then moreN n (c * 64 + x % 64) (a ++ b) else none := rfl
  rw [e1] at h; rw [e2]
  split at h
  ·rw [if_pos (by assumption)]; exact moreN_app n _ a b y h
  ·cases h
theorem dec_app {a : List Nat} (ha : a ≠ []) (h : ¬ (dec a).1 < 0) (b : List Nat) : dec (a ++ b) = dec a := by
 cases a with
 | nil => exact absurd rfl ha
 | cons c r =>
  have hd : ∀ r, dec (c :: r) = if (leadN c).1 = 0 then (-1, 1) else fitN (leadN c).1 (moreN ((leadN c).1 - 1) (leadN c).2 r) := fun _ => rfl
  rw [List.cons_append, hd, hd]
  rw [hd] at h
  by_cases h0 : (leadN c).1 = 0
  ·rw [if_pos h0] at h; exact absurd (by decide) h
  ·rw [if_neg h0] at h; rw [if_neg h0, if_neg h0]
   cases hm : moreN ((leadN c).1 - 1) (leadN c).2 r with
   | none => rw [hm] at h; exact absurd (show ((-1 : Int), (1 : Int)).1 < 0 by decide) h
   | some y => rw [moreN_app _ _ _ _ _ hm]
theorem vld_nil (n : Nat) : vld n [] = true := by cases n <;> rfl
theorem cpc_nil (n : Nat) : cpc n [] = 0 := by cases n <;> rfl
theorem vld_cons {n : Nat} {s : List Nat} (h : s ≠ []) : vld (n + 1) s = if (dec s).1 < 0 then false else vld n (s.drop (dec s).2.toNat) := by
 cases s with
 | nil => exact absurd rfl h
 | cons c r => rfl
theorem cpc_cons {n : Nat} {s : List Nat} (h : s ≠ []) : cpc (n + 1) s = cpc n (s.drop (dec s).2.toNat) + 1 := by
 cases s with
 | nil => exact absurd rfl h
 | cons c r => rfl
theorem vld_more : ∀ (n m : Nat) (s : List Nat), s.length ≤ n → s.length ≤ m → vld n s = vld m s
 | 0, m, s, h1, h2 => by
  have : s = [] := List.eq_nil_of_length_eq_zero (by omega)
  rw [this, vld_nil, vld_nil]
 | n + 1, 0, s, h1, h2 => by
  have : s = [] := List.eq_nil_of_length_eq_zero (by omega)
  rw [this, vld_nil, vld_nil]
 | n + 1, m + 1, s, h1, h2 => by
  by_cases hs : s = []
  ·rw [hs, vld_nil, vld_nil]
  ·obtain ⟨q, n1, n2, n3, n4, n5⟩ := dec_size hs
   rw [vld_cons hs, vld_cons hs, n1]
   have := vld_more n m (s.drop q) (by rw [List.length_drop]; clear n1; omega) (by rw [List.length_drop]; clear n1; omega)
   simp only [Int.toNat_natCast]
   rw [this]
theorem cpc_more : ∀ (n m : Nat) (s : List Nat), s.length ≤ n → s.length ≤ m → cpc n s = cpc m s
 | 0, m, s, h1, h2 => by
  have : s = [] := List.eq_nil_of_length_eq_zero (by omega)
  rw [this, cpc_nil, cpc_nil]
 | n + 1, 0, s, h1, h2 => by
  have : s = [] := List.eq_nil_of_length_eq_zero (by omega)
  rw [this, cpc_nil, cpc_nil]
 | n + 1, m + 1, s, h1, h2 => by
  by_cases hs : s = []
  ·rw [hs, cpc_nil, cpc_nil]
  ·obtain ⟨q, n1, n2, n3, n4, n5⟩ := dec_size hs
   rw [cpc_cons hs, cpc_cons hs, n1]
   have := cpc_more n m (s.drop q) (by rw [List.length_drop]; clear n1; omega) (by rw [List.length_drop]; clear n1; omega)
   simp only [Int.toNat_natCast]
   rw [this]
theorem join_at : ∀ (n : Nat) (a b : List Nat), a.length ≤ n → vld n a = true → vld (n + b.length) (a ++ b) = vld b.length b ∧ cpc (n + b.length) (a ++ b) = cpc n a + cpc b.length b
 | 0, a, b, h, hv => by
  have : a = [] := List.eq_nil_of_length_eq_zero (by omega)
  subst this
  simp [cpc_nil]
 | n + 1, a, b, h, hv => by
  by_cases ha : a = []
  ·subst ha
   rw [List.nil_append, cpc_nil, Nat.zero_add]
   exact ⟨vld_more _ _ _ (by omega) (by omega), cpc_more _ _ _ (by omega) (by omega)⟩
  ·obtain ⟨q, n1, n2, n3, n4, n5⟩ := dec_size ha
   rw [vld_cons ha] at hv
   by_cases hneg : (dec a).1 < 0
   ·rw [if_pos hneg] at hv; cases hv
   ·rw [if_neg hneg, n1, Int.toNat_natCast] at hv
    have hab : a ++ b ≠ [] := by simp [ha]
    have hd := dec_app ha hneg b
    rw [show n + 1 + b.length = (n + b.length) + 1 from by clear n1; omega, vld_cons hab, cpc_cons hab, hd, if_neg hneg, n1, Int.toNat_natCast, List.drop_append_of_le_length n4, cpc_cons ha, n1, Int.toNat_natCast]
    have ih := join_at n (a.drop q) b (by rw [List.length_drop]; clear n1; omega) hv
    rw [ih.1, ih.2]
    exact ⟨rfl, by clear n1; omega⟩
theorem join_all {a b : List Nat} (hv : vld a.length a = true) : vld (a ++ b).length (a ++ b) = vld b.length b ∧ cpc (a ++ b).length (a ++ b) = cpc a.length a + cpc b.length b := by
 have := join_at a.length a b (Nat.le_refl _) hv
 rw [List.length_append]
 exact this
end Go.Proofs.Ytokcjgjgojlhbaa.Am
set_option maxRecDepth 100000
set_option linter.unusedVariables false
set_option linter.unusedSimpArgs false
namespace Go.Proofs.Ytokcjgjgojlhbaa.Am
open Go
theorem moreN_cont' : ∀ (n c : Nat) (r : List Nat) (y : Nat), moreN n c r = some y → ∀ j, j < n → ∃ b : Nat, r[j]? = some b ∧ b / 64 = 2
 | 0, _, _, _, _, j, hj => by omega
 | n + 1, c, [], y, h, j, hj => by cases h
 | n + 1, c, x :: r, y, h, j, hj => by
  have e : moreN (n + 1) c (x :: r) = if x / 64 = 2 then moreN n (c * 64 + x % 64) r else none := rfl
  rw [e] at h
  split at h
  ·cases j with
   | zero => exact ⟨x, rfl, by assumption⟩
   | succ j => exact moreN_cont' n _ r y h j (by omega)
  ·cases h
end Go.Proofs.Ytokcjgjgojlhbaa.Am
set_option maxRecDepth 100000
set_option linter.unusedVariables false
set_option linter.unusedSimpArgs false
namespace Go.Proofs.Ytokcjgjgojlhbaa.Am
open Go
def V (s : List Nat) : Bool := vld s.length s
theorem V_app {a : List Nat} (b : List Nat) (h : V a = true) : V (a ++ b) = V b := (join_all h).1
theorem V_cons {s : List Nat} (h : s ≠ []) : V s = if (dec s).1 < 0 then false else V (s.drop (dec s).2.toNat) := by
 obtain ⟨n, n1, n2, n3, n4, -⟩ := dec_size h
 unfold V
 obtain ⟨m, hm⟩ : ∃ m, s.length = m + 1 := ⟨s.length - 1, by clear n1; omega⟩
 rw [hm, vld_cons h, n1, Int.toNat_natCast, vld_more m (s.drop n).length (s.drop n) (by rw [List.length_drop]; clear n1; omega) (Nat.le_refl _)]
theorem V_ascii {c : Nat} (r : List Nat) (h : c < 128) : V (c :: r) = V r := by
 rw [V_cons (by simp), dec_ascii r h, if_neg (by show ¬ (c : Int) < 0; omega)]; rfl
theorem V_cut : ∀ (n : Nat) (u v : List Nat), u.length ≤ n → V (u ++ v) = true → (v = [] ∨ ∃ c w, v = c :: w ∧ c < 128) → V u = true
 | 0, u, v, h, hv, h2 => by
  obtain rfl : u = [] := List.length_eq_zero_iff.1 (by omega)
  rfl
 | n + 1, u, v, h, hv, h2 => by
  by_cases hu : u = []
  ·rw [hu]; rfl
  ·have huv : u ++ v ≠ [] := by simp [hu]
   rw [V_cons huv] at hv
   by_cases hneg : (dec (u ++ v)).1 < 0
   ·rw [if_pos hneg] at hv; cases hv
   ·rw [if_neg hneg] at hv
    obtain ⟨q, q1, q2, q3, q4, -⟩ := dec_size huv
    have hq : q ≤ u.length := by
     rcases Nat.lt_or_ge u.length q with hlt | hge
     ·exfalso
      rcases h2 with rfl | ⟨c, w, rfl, hc⟩
      ·rw [List.append_nil] at q4; omega
      ·obtain ⟨a, u', rfl⟩ := List.exists_cons_of_ne_nil hu
       simp only [List.cons_append, dec] at hneg q1
       by_cases hl : (leadN a).1 = 0
       ·rw [if_pos hl] at hneg; exact hneg (show ((-1 : Int), (1 : Int)).1 < 0 by decide)
       ·rw [if_neg hl] at hneg q1
        cases hy : moreN ((leadN a).1 - 1) (leadN a).2 (u' ++ c :: w) with
        | none => rw [hy] at hneg; exact hneg (show ((-1 : Int), (1 : Int)).1 < 0 by decide)
        | some y =>
         rw [hy] at hneg q1
         simp only [fitN] at hneg q1
         split at hneg
         ·rename_i hf
          rw [if_pos hf] at q1
          have q1 : ((leadN a).1 : Int) = (q : Int) := q1
          simp only [List.length_cons] at hlt
          obtain ⟨b, hb, hb2⟩ := moreN_cont' _ _ _ _ hy u'.length (by omega)
          rw [List.getElem?_append_right (Nat.le_refl _), Nat.sub_self] at hb
          have : c = b := by simpa using hb
          omega
         ·exact hneg (show ((-1 : Int), (1 : Int)).1 < 0 by decide)
     ·exact hge
    have hd : dec u = dec (u ++ v) := by
     have := dec_tk (s := u ++ v) (m := u.length) hneg (by rw [q1]; clear q1; omega)
     rwa [List.take_left] at this
    rw [V_cons hu, hd, if_neg hneg, q1, Int.toNat_natCast]
    rw [q1, Int.toNat_natCast, List.drop_append_of_le_length hq] at hv
    exact V_cut n (u.drop q) v (by rw [List.length_drop]; clear q1; omega) hv h2
theorem skip_head : ∀ {s : List Nat} {c : Nat} {r : List Nat}, s.drop (skipN s) = c :: r → blkN c = false
 | [], c, r, h => by cases h
 | d :: s, c, r, h => by
  simp only [skipN] at h
  by_cases hb : blkN d = true
  ·rw [if_pos hb, List.drop_succ_cons] at h
   exact skip_head h
  ·rw [if_neg hb, List.drop_zero] at h
   rw [← (List.cons.inj h).1]
   exact Bool.eq_false_iff.2 hb
theorem skip_blank : ∀ {s : List Nat} {j c : Nat} {r : List Nat}, s.drop j = c :: r → j < skipN s → blkN c = true
 | [], j, c, r, h, hj => by simp at h
 | d :: s, 0, c, r, h, hj => by
  rw [List.drop_zero] at h
  have e := (List.cons.inj h).1
  subst e
  simp only [skipN] at hj
  by_cases hb : blkN d = true
  ·exact hb
  ·rw [if_neg hb] at hj; omega
 | d :: s, j + 1, c, r, h, hj => by
  rw [List.drop_succ_cons] at h
  simp only [skipN] at hj
  by_cases hb : blkN d = true
  ·rw [if_pos hb] at hj
   exact skip_blank h (by omega)
  ·rw [if_neg hb] at hj; omega
theorem blk_ascii {c : Nat} (h : blkN c = true) : c < 128 := by
 unfold blkN at h
 simp only [Bool.or_eq_true, decide_eq_true_eq] at h
 omega
theorem V_skip : ∀ (s : List Nat), V (s.drop (skipN s)) = V s
 | [] => rfl
 | c :: r => by
  simp only [skipN]
  by_cases hb : blkN c = true
  ·rw [if_pos hb, List.drop_succ_cons, V_skip r, V_ascii r (blk_ascii hb)]
  ·rw [if_neg hb, List.drop_zero]
theorem skip_step {s : List Nat} {c : Nat} {r : List Nat} (h : s = c :: r) (hb : blkN c = false) : skipN s = 0 := by
 subst h; simp only [skipN, hb, Bool.false_eq_true, if_false]
theorem one_ascii {c : Nat} {r : List Nat} (h : (oneN (c :: r)).1 ≠ 0) : c < 128 := by
 rcases Nat.lt_or_ge c 128 with hc | hc
 ·exact hc
 ·exfalso
  apply h
  have hb : begN c = 0 := by unfold begN; rw [if_neg (by omega), if_neg (by omega), if_neg (by omega)]
  have hl : lngN (c :: r) = 0 := by
   have key : ∀ L : List (List Nat), (∀ l ∈ L, ∃ x l', l = x :: l' ∧ x < 128) → fstN L (c :: r) = 0 := by
    intro L
    induction L with
    | nil => intro _; rfl
    | cons l L ih =>
     intro hL
     obtain ⟨x, l', rfl, hx⟩ := hL l List.mem_cons_self
     have : preN (x :: l') (c :: r) = false := by simp only [preN]; rw [decide_eq_false (by omega)]; rfl
     simp only [fstN, this, Bool.false_eq_true, if_false]
     exact ih (fun l hl => hL l (List.mem_cons_of_mem _ hl))
   refine key signL ?_
   have : signL.all (fun l => match l with | x :: _ => decide (x < 128) | [] => false) = true := by decide
   intro l hl
   have h2 := List.all_eq_true.1 this l hl
   cases l with
   | nil => cases h2
   | cons x l' => exact ⟨x, l', rfl, of_decide_eq_true h2⟩
  simp only [oneN]
  rw [if_neg (by omega), if_neg (by omega), if_neg (by omega), if_neg (by omega), if_neg (by omega), if_neg (by omega), if_neg (by omega), if_neg (by omega), hl]
def Toks (s : List Nat) : Nat → List (Nat × Nat × Nat) → Prop
 | a, [] => s.length ≤ a + skipN (s.drop a)
 | a, x :: l => x.2.1 = a + skipN (s.drop a) ∧ x.2.1 < s.length ∧ oneN (s.drop x.2.1) = (x.2.2, x.1) ∧ x.2.2 ≠ 0 ∧ Toks s (x.2.1 + x.2.2) l
theorem toks_iff (s : List Nat) : ∀ (f a : Nat) (l : List (Nat × Nat × Nat)), s.length < a + f → (toksN s f a = some l ↔ Toks s a l)
 | 0, a, l, h => by
  have hd : s.drop a = [] := dnil (by omega)
  simp only [toksN]
  cases l with
  | nil => simp only [Toks, hd, skipN]; simp; omega
  | cons x l =>
   simp only [Toks, hd, skipN]
   constructor
   ·intro h; cases h
   ·rintro ⟨h1, h2, -⟩; omega
 | f + 1, a, l, h => by
  have ih := fun a' l' hh => toks_iff s f a' l' hh
  unfold toksN
  by_cases hb : s.length ≤ a + skipN (s.drop a)
  ·rw [if_pos hb]
   cases l with
   | nil => simp only [Toks]; simp [hb]
   | cons x l =>
    simp only [Toks]
    constructor
    ·intro h; cases h
    ·rintro ⟨h1, h2, -⟩; omega
  ·rw [if_neg hb]
   by_cases h0 : (oneN (s.drop (a + skipN (s.drop a)))).1 = 0
   ·rw [if_pos h0]
    cases l with
    | nil => simp only [Toks]; simp; omega
    | cons x l =>
     simp only [Toks]
     constructor
     ·intro h; cases h
     ·rintro ⟨h1, h2, h3, h4, -⟩
      rw [← h1, h3] at h0
      exact absurd h0 h4
   ·rw [if_neg h0]
    cases l with
    | nil =>
     simp only [Toks]
     constructor
     ·intro h
      cases ht : toksN s f (a + skipN (s.drop a) + (oneN (s.drop (a + skipN (s.drop a)))).1) with
      | none => rw [ht] at h; cases h
      | some l => rw [ht] at h; cases h
     ·intro h; exact absurd h hb
    | cons x l =>
     obtain ⟨k, b, n⟩ := x
     simp only [Toks]
     constructor
     ·intro h
      cases ht : toksN s f (a + skipN (s.drop a) + (oneN (s.drop (a + skipN (s.drop a)))).1) with
      | none => rw [ht] at h; cases h
      | some l' =>
       rw [ht] at h
       cases h
       refine ⟨rfl, by omega, rfl, h0, ?_⟩
       exact (ih _ _ (by have := Nat.pos_of_ne_zero h0; omega)).1 ht
     ·rintro ⟨rfl, h2, h3, h4, h5⟩
      have e1 : (oneN (s.drop (a + skipN (s.drop a)))).1 = n := by rw [h3]
      have e2 : (oneN (s.drop (a + skipN (s.drop a)))).2 = k := by rw [h3]
      rw [e1, e2, (ih _ _ (by have := Nat.pos_of_ne_zero h4; omega)).2 h5]
      rfl
theorem toks_bounds {s : List Nat} : ∀ {l : List (Nat × Nat × Nat)} {a : Nat}, Toks s a l → a ≤ s.length → ∀ x ∈ l, a ≤ x.2.1 ∧ x.2.1 + x.2.2 ≤ s.length ∧ x.2.2 ≠ 0
 | [], a, h, ha, x, hx => by cases hx
 | y :: l, a, h, ha, x, hx => by
  obtain ⟨h1, h2, h3, h4, h5⟩ := h
  have ol := oneN_le (s.drop y.2.1)
  rw [h3, List.length_drop] at ol
  rcases List.mem_cons.1 hx with rfl | hx
  ·exact ⟨by omega, by simp only [] at ol; omega, h4⟩
  ·have := toks_bounds h5 (by simp only [] at ol; omega) x hx
   omega
end Go.Proofs.Ytokcjgjgojlhbaa.Am
