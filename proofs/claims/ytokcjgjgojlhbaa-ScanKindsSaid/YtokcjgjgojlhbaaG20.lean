/- Function 20, plain, and that the program computes it. Printed by gen.py. -/
import Derived.Test.YtokcjgjgojlhbaaTy
import Derived.Test.YtokcjgjgojlhbaaG30
import Derived.Test.YtokcjgjgojlhbaaG33
import Derived.Test.YtokcjgjgojlhbaaG34
import Derived.Test.YtokcjgjgojlhbaaG35
import Derived.Test.YtokcjgjgojlhbaaG36
import Derived.Test.YtokcjgjgojlhbaaG37
import Derived.Test.YtokcjgjgojlhbaaG38
import Derived.Test.YtokcjgjgojlhbaaG39
import Derived.Test.YtokcjgjgojlhbaaG40
import Derived.Test.YtokcjgjgojlhbaaG41
set_option maxRecDepth 100000
set_option linter.unusedVariables false
namespace Go.Proofs.Ytokcjgjgojlhbaa.Am
open Go

/-! 20 galley/scan.one -/
noncomputable def X20 : Fx (Int × Int) := ⟨Try.prog, cx, Try.f20, fun r => .tuple [.int .i64 r.1, .int .i64 r.2], 0, fun _ => H0, cxTi, cxOrd⟩
noncomputable def g20p0 : Pt := nav [0] (bodyAt Try.f20)
noncomputable def g20p1 : Pt := nav [0, 0, 0] g20p0
noncomputable def g20p2 : Pt := nav [0, 0, 0, 0, 0] g20p1
noncomputable def g20p3 : Pt := nav [0, 0] g20p2
noncomputable def g20p4 : Pt := nav [1, 0] g20p3
noncomputable def g20p5 : Pt := nav [2, 0] g20p3
noncomputable def g20p7 : Pt := nav [0, 0] g20p5
noncomputable def g20p8 : Pt := nav [1, 0] g20p7
noncomputable def g20p9 : Pt := nav [2, 0] g20p7
noncomputable def g20p10 : Pt := nav [0, 0] g20p9
noncomputable def g20p11 : Pt := nav [1, 0] g20p10
noncomputable def g20p12 : Pt := nav [2, 0] g20p10
noncomputable def g20p13 : Pt := nav [0, 0] g20p12
noncomputable def g20p14 : Pt := nav [1, 0] g20p13
noncomputable def g20p15 : Pt := nav [2, 0] g20p13
noncomputable def g20p16 : Pt := nav [0, 0] g20p15
noncomputable def g20p17 : Pt := nav [1, 0] g20p16
noncomputable def g20p18 : Pt := nav [2, 0] g20p16
noncomputable def g20p19 : Pt := nav [0, 0] g20p18
noncomputable def g20p20 : Pt := nav [1, 0] g20p19
noncomputable def g20p21 : Pt := nav [2, 0, 0, 0] g20p19
noncomputable def g20p22 : Pt := nav [0, 0, 0] g20p21
noncomputable def g20p23 : Pt := nav [0, 0, 0, 0] g20p22
noncomputable def g20p24 : Pt := nav [0, 0] g20p23
noncomputable def g20p25 : Pt := nav [1, 0] g20p24
noncomputable def g20p26 : Pt := nav [2, 0, 0] g20p24
noncomputable def g20p27 : Pt := nav [0, 0] g20p26
noncomputable def g20p28 : Pt := nav [1, 0] g20p27
noncomputable def g20p29 : Pt := nav [2] g20p27
noncomputable def g20p30 : Pt := nav [1, 0] g20p28
noncomputable def g20p31 : Pt := nav [2, 0, 0] g20p28
noncomputable def g20p32 : Pt := nav [0, 0, 0, 0] g20p30
noncomputable def g20p33 : Pt := nav [0, 0] g20p32
noncomputable def g20p34 : Pt := nav [1] g20p33
noncomputable def g20p35 : Pt := nav [2, 0, 0] g20p33
noncomputable def g20 (k : Nat) (a0 : (List Nat)) : Option (Int × Int) :=
  (nthS a0 0).bind fun x0_1 => if (decide (x0_1 = 37)) then ((g33 k a0).bind fun x1_1 => some (x1_1, (11 : Int))) else (jn (fun (z12 : Bool) => if z12 then (some ((1 : Int), (10 : Int))) else (if (decide (x0_1 = 39)) then ((g34 k a0).bind fun x3_1 => some (x3_1, (1 : Int))) else (if (decide (x0_1 = 34)) then ((g34 k a0).bind fun x4_1 => some (x4_1, (6 : Int))) else (if (decide (x0_1 = 36)) then ((g35 k a0).bind fun x5_1 => some (x5_1, (5 : Int))) else (if (decide (x0_1 = 63)) then ((g36 k a0).bind fun x6_1 => some (x6_1, (7 : Int))) else ((g37 k x0_1).bind fun x7_1 => if (decide (x7_1 = 3)) then ((g38 k a0).bind fun x8_1 => some (x8_1.1, x8_1.2)) else (jn (fun (z13 : Bool) => if z13 then ((g39 k a0).bind fun x9_1 => (subL a0 none (some x9_1)).bind fun x10_2 => (g40 k x10_2).bind fun x10_3 => jn (fun (z14 : Int) => some (x9_1, z14)) (fun j14 => if x10_3 then (j14 8) else (j14 x7_1))) else ((g41 k a0 (0 : Int)).bind fun x11_1 => some (x11_1, (9 : Int)))) (fun j13 => if (decide (x7_1 = 1)) then (j13 true) else (j13 (decide (x7_1 = 2))))))))))) (fun j12 => if (decide (x0_1 = 46)) then (if (decide ((a0.length : Int) = 1)) then (j12 true) else ((nthS a0 1).bind fun x2_8 => (g30 k x2_8).bind fun x2_9 => if x2_9 then (j12 true) else ((nthS a0 1).bind fun x2_13 => j12 (decide (x2_13 = 37))))) else (j12 false)))
theorem g20_ok (k : Nat) (a0 : (List Nat)) (r : (Int × Int)) (h : g20 k a0 = some r) : PureOk Try.prog 20 [.str a0] (.tuple [.int .i64 r.1, .int .i64 r.2]) := by
  refine pure_of X20 (fun _ => rfl) Try.func20 (by decide +kernel) (by kernel_rfl) (t := g20 k a0) ?_ h
  unfold g20
  refine ok_env (env' := [(0, .str a0)]) (by kernel_rfl) ?_
  refine ok_run 8 (p' := (atN 1 (ctl1 g20p1))) (env' := [(7, .str a0), (3, .int .i64 0), (2, .int .i64 0), (0, .str a0)]) (H' := (mkH [])) (by kernel_rfl) ?_
  refine ok_chk (fun (x0_1 : Int) => (.int .u8 x0_1, (mkH []))) (atN 2 (ctl1 g20p1)) (fun x0_1 => [(8, .int .u8 x0_1), (7, .str a0), (3, .int .i64 0), (2, .int .i64 0), (0, .str a0)]) (idxH (by kernel_rfl)) (fun _ => by kernel_rfl) (fun x0_1 hx0_1 => ?_)
  let E1 : Env := [(9, .bool (decide (x0_1 = 37))), (11, .bool (decide (x0_1 = 37))), (10, .int .u8 x0_1), (4, .int .u8 x0_1), (8, .int .u8 x0_1), (7, .str a0), (3, .int .i64 0), (2, .int .i64 0), (0, .str a0)]
  refine ok_run 10 (p' := g20p3) (env' := E1) (H' := (mkH [])) (by kernel_rfl) ?_
  refine ok_split 9 (b := decide (x0_1 = 37)) (by kernel_rfl) (fun hb => ?_) (fun hb => ?_)
  · refine ok_run 4 (p' := (atN 1 (ctl1 g20p4))) (env' := ((12, .str a0) :: (9, .bool true) :: E1)) (H' := (mkH [])) (by kernel_rfl) ?_
    refine ok_call (fun (x1_1 : Int) => .int .i64 x1_1) (atN 2 (ctl1 g20p4)) (fun x1_1 => ((13, .int .i64 x1_1) :: (12, .str a0) :: (9, .bool true) :: E1)) (fi := 33) (args := [.str a0]) (by kernel_rfl) (by kernel_rfl) (fun _ => by kernel_rfl) (fun r h => g33_ok k a0 r h) (fun _ => by kernel_rfl) (fun x1_1 hx1_1 => ?_)
    let E2 : Env := ((3, .int .i64 11) :: (2, .int .i64 x1_1) :: (13, .int .i64 x1_1) :: (12, .str a0) :: (9, .bool true) :: E1)
    refine ok_run 4 (p' := .fin) (env' := E2) (H' := (mkH [])) (by kernel_rfl) ?_
    exact ok_ret (r := (x1_1, (11 : Int))) (xs := [.int .i64 x1_1, .int .i64 11]) (v := .tuple [.int .i64 x1_1, .int .i64 11]) (by kernel_rfl) (by kernel_rfl) (by kernel_rfl) (.pures (by kernel_rfl)) (by kernel_rfl)
  · refine ok_run 6 (p' := (atN 3 (ctl1 g20p5))) (env' := ((17, .bool (decide (x0_1 = 46))) :: (16, .bool (decide (x0_1 = 46))) :: (15, .int .u8 x0_1) :: (9, .bool false) :: E1)) (H' := (mkH [])) (by kernel_rfl) ?_
    refine ok_jn (f := fun (z12 : Bool) => if z12 then (some ((1 : Int), (10 : Int))) else (if (decide (x0_1 = 39)) then ((g34 k a0).bind fun x3_1 => some (x3_1, (1 : Int))) else (if (decide (x0_1 = 34)) then ((g34 k a0).bind fun x4_1 => some (x4_1, (6 : Int))) else (if (decide (x0_1 = 36)) then ((g35 k a0).bind fun x5_1 => some (x5_1, (5 : Int))) else (if (decide (x0_1 = 63)) then ((g36 k a0).bind fun x6_1 => some (x6_1, (7 : Int))) else ((g37 k x0_1).bind fun x7_1 => if (decide (x7_1 = 3)) then ((g38 k a0).bind fun x8_1 => some (x8_1.1, x8_1.2)) else (jn (fun (z13 : Bool) => if z13 then ((g39 k a0).bind fun x9_1 => (subL a0 none (some x9_1)).bind fun x10_2 => (g40 k x10_2).bind fun x10_3 => jn (fun (z14 : Int) => some (x9_1, z14)) (fun j14 => if x10_3 then (j14 8) else (j14 x7_1))) else ((g41 k a0 (0 : Int)).bind fun x11_1 => some (x11_1, (9 : Int)))) (fun j13 => if (decide (x7_1 = 1)) then (j13 true) else (j13 (decide (x7_1 = 2))))))))))) g20p7 (fun (z12 : Bool) => [(0, .str a0), (4, .int .u8 x0_1), (14, .bool z12)]) (fun (z12 : Bool) => (mkH [])) (fun z12 => ?_) (fun j12 hj12 => ?_)
    · refine ok_split 14 (b := z12) (by kernel_rfl) (fun hb => ?_) (fun hb => ?_)
      · let E3 : Env := [(3, .int .i64 10), (2, .int .i64 1), (14, .bool true), (0, .str a0), (4, .int .u8 x0_1), (14, .bool z12)]
        refine ok_run 7 (p' := .fin) (env' := E3) (H' := (mkH [])) (by kernel_rfl) ?_
        exact ok_ret (r := ((1 : Int), (10 : Int))) (xs := [.int .i64 1, .int .i64 10]) (v := .tuple [.int .i64 1, .int .i64 10]) (by kernel_rfl) (by kernel_rfl) (by kernel_rfl) (.pures (by kernel_rfl)) (by kernel_rfl)
      · let E4 : Env := [(32, .bool (decide (x0_1 = 39))), (34, .bool (decide (x0_1 = 39))), (33, .int .u8 x0_1), (14, .bool false), (0, .str a0), (4, .int .u8 x0_1), (14, .bool z12)]
        refine ok_run 7 (p' := g20p10) (env' := E4) (H' := (mkH [])) (by kernel_rfl) ?_
        refine ok_split 32 (b := decide (x0_1 = 39)) (by kernel_rfl) (fun hb => ?_) (fun hb => ?_)
        · refine ok_run 4 (p' := (atN 1 (ctl1 g20p11))) (env' := ((35, .str a0) :: (32, .bool true) :: E4)) (H' := (mkH [])) (by kernel_rfl) ?_
          refine ok_call (fun (x3_1 : Int) => .int .i64 x3_1) (atN 2 (ctl1 g20p11)) (fun x3_1 => ((36, .int .i64 x3_1) :: (35, .str a0) :: (32, .bool true) :: E4)) (fi := 34) (args := [.str a0]) (by kernel_rfl) (by kernel_rfl) (fun _ => by kernel_rfl) (fun r h => g34_ok k a0 r h) (fun _ => by kernel_rfl) (fun x3_1 hx3_1 => ?_)
          let E5 : Env := ((3, .int .i64 1) :: (2, .int .i64 x3_1) :: (36, .int .i64 x3_1) :: (35, .str a0) :: (32, .bool true) :: E4)
          refine ok_run 4 (p' := .fin) (env' := E5) (H' := (mkH [])) (by kernel_rfl) ?_
          exact ok_ret (r := (x3_1, (1 : Int))) (xs := [.int .i64 x3_1, .int .i64 1]) (v := .tuple [.int .i64 x3_1, .int .i64 1]) (by kernel_rfl) (by kernel_rfl) (by kernel_rfl) (.pures (by kernel_rfl)) (by kernel_rfl)
        · refine ok_run 7 (p' := g20p13) (env' := ((37, .bool (decide (x0_1 = 34))) :: (39, .bool (decide (x0_1 = 34))) :: (38, .int .u8 x0_1) :: (32, .bool false) :: E4)) (H' := (mkH [])) (by kernel_rfl) ?_
          refine ok_keep [0, 4, 37] (env' := [(0, .str a0), (4, .int .u8 x0_1), (37, .bool (decide (x0_1 = 34)))]) (by kernel_rfl) ?_
          refine ok_split 37 (b := decide (x0_1 = 34)) (by kernel_rfl) (fun hb => ?_) (fun hb => ?_)
          · let E6 : Env := [(40, .str a0), (37, .bool true), (0, .str a0), (4, .int .u8 x0_1), (37, .bool (decide (x0_1 = 34)))]
            refine ok_run 4 (p' := (atN 1 (ctl1 g20p14))) (env' := E6) (H' := (mkH [])) (by kernel_rfl) ?_
            refine ok_call (fun (x4_1 : Int) => .int .i64 x4_1) (atN 2 (ctl1 g20p14)) (fun x4_1 => ((41, .int .i64 x4_1) :: E6)) (fi := 34) (args := [.str a0]) (by kernel_rfl) (by kernel_rfl) (fun _ => by kernel_rfl) (fun r h => g34_ok k a0 r h) (fun _ => by kernel_rfl) (fun x4_1 hx4_1 => ?_)
            refine ok_run 4 (p' := .fin) (env' := ((3, .int .i64 6) :: (2, .int .i64 x4_1) :: (41, .int .i64 x4_1) :: E6)) (H' := (mkH [])) (by kernel_rfl) ?_
            exact ok_ret (r := (x4_1, (6 : Int))) (xs := [.int .i64 x4_1, .int .i64 6]) (v := .tuple [.int .i64 x4_1, .int .i64 6]) (by kernel_rfl) (by kernel_rfl) (by kernel_rfl) (.pures (by kernel_rfl)) (by kernel_rfl)
          · let E7 : Env := [(42, .bool (decide (x0_1 = 36))), (44, .bool (decide (x0_1 = 36))), (43, .int .u8 x0_1), (37, .bool false), (0, .str a0), (4, .int .u8 x0_1), (37, .bool (decide (x0_1 = 34)))]
            refine ok_run 7 (p' := g20p16) (env' := E7) (H' := (mkH [])) (by kernel_rfl) ?_
            refine ok_split 42 (b := decide (x0_1 = 36)) (by kernel_rfl) (fun hb => ?_) (fun hb => ?_)
            · refine ok_run 4 (p' := (atN 1 (ctl1 g20p17))) (env' := ((45, .str a0) :: (42, .bool true) :: E7)) (H' := (mkH [])) (by kernel_rfl) ?_
              refine ok_call (fun (x5_1 : Int) => .int .i64 x5_1) (atN 2 (ctl1 g20p17)) (fun x5_1 => ((46, .int .i64 x5_1) :: (45, .str a0) :: (42, .bool true) :: E7)) (fi := 35) (args := [.str a0]) (by kernel_rfl) (by kernel_rfl) (fun _ => by kernel_rfl) (fun r h => g35_ok k a0 r h) (fun _ => by kernel_rfl) (fun x5_1 hx5_1 => ?_)
              let E8 : Env := ((3, .int .i64 5) :: (2, .int .i64 x5_1) :: (46, .int .i64 x5_1) :: (45, .str a0) :: (42, .bool true) :: E7)
              refine ok_run 4 (p' := .fin) (env' := E8) (H' := (mkH [])) (by kernel_rfl) ?_
              exact ok_ret (r := (x5_1, (5 : Int))) (xs := [.int .i64 x5_1, .int .i64 5]) (v := .tuple [.int .i64 x5_1, .int .i64 5]) (by kernel_rfl) (by kernel_rfl) (by kernel_rfl) (.pures (by kernel_rfl)) (by kernel_rfl)
            · refine ok_run 7 (p' := g20p19) (env' := ((47, .bool (decide (x0_1 = 63))) :: (49, .bool (decide (x0_1 = 63))) :: (48, .int .u8 x0_1) :: (42, .bool false) :: E7)) (H' := (mkH [])) (by kernel_rfl) ?_
              refine ok_keep [0, 4, 47] (env' := [(0, .str a0), (4, .int .u8 x0_1), (47, .bool (decide (x0_1 = 63)))]) (by kernel_rfl) ?_
              refine ok_split 47 (b := decide (x0_1 = 63)) (by kernel_rfl) (fun hb => ?_) (fun hb => ?_)
              · let E9 : Env := [(50, .str a0), (47, .bool true), (0, .str a0), (4, .int .u8 x0_1), (47, .bool (decide (x0_1 = 63)))]
                refine ok_run 4 (p' := (atN 1 (ctl1 g20p20))) (env' := E9) (H' := (mkH [])) (by kernel_rfl) ?_
                refine ok_call (fun (x6_1 : Int) => .int .i64 x6_1) (atN 2 (ctl1 g20p20)) (fun x6_1 => ((51, .int .i64 x6_1) :: E9)) (fi := 36) (args := [.str a0]) (by kernel_rfl) (by kernel_rfl) (fun _ => by kernel_rfl) (fun r h => g36_ok k a0 r h) (fun _ => by kernel_rfl) (fun x6_1 hx6_1 => ?_)
                refine ok_run 4 (p' := .fin) (env' := ((3, .int .i64 7) :: (2, .int .i64 x6_1) :: (51, .int .i64 x6_1) :: E9)) (H' := (mkH [])) (by kernel_rfl) ?_
                exact ok_ret (r := (x6_1, (7 : Int))) (xs := [.int .i64 x6_1, .int .i64 7]) (v := .tuple [.int .i64 x6_1, .int .i64 7]) (by kernel_rfl) (by kernel_rfl) (by kernel_rfl) (.pures (by kernel_rfl)) (by kernel_rfl)
              · let E10 : Env := [(52, .int .u8 x0_1), (47, .bool false), (0, .str a0), (4, .int .u8 x0_1), (47, .bool (decide (x0_1 = 63)))]
                refine ok_run 6 (p' := (atN 1 (ctl1 g20p21))) (env' := E10) (H' := (mkH [])) (by kernel_rfl) ?_
                refine ok_call (fun (x7_1 : Int) => .int .i64 x7_1) (atN 2 (ctl1 g20p21)) (fun x7_1 => ((53, .int .i64 x7_1) :: E10)) (fi := 37) (args := [.int .u8 x0_1]) (by kernel_rfl) (by kernel_rfl) (fun _ => by kernel_rfl) (fun r h => g37_ok k x0_1 r h) (fun _ => by kernel_rfl) (fun x7_1 hx7_1 => ?_)
                let E11 : Env := ((55, .bool (decide (x7_1 = 3))) :: (56, .bool (decide (x7_1 = 3))) :: (54, .int .i64 x7_1) :: (5, .int .i64 x7_1) :: (53, .int .i64 x7_1) :: E10)
                refine ok_run 12 (p' := g20p24) (env' := E11) (H' := (mkH [])) (by kernel_rfl) ?_
                refine ok_split 55 (b := decide (x7_1 = 3)) (by kernel_rfl) (fun hb => ?_) (fun hb => ?_)
                · refine ok_run 4 (p' := (atN 1 (ctl1 g20p25))) (env' := ((57, .str a0) :: (55, .bool true) :: E11)) (H' := (mkH [])) (by kernel_rfl) ?_
                  refine ok_call (fun (x8_1 : (Int × Int)) => .tuple [.int .i64 x8_1.1, .int .i64 x8_1.2]) (atN 2 (ctl1 g20p25)) (fun x8_1 => ((58, .tuple [.int .i64 x8_1.1, .int .i64 x8_1.2]) :: (57, .str a0) :: (55, .bool true) :: E11)) (fi := 38) (args := [.str a0]) (by kernel_rfl) (by kernel_rfl) (fun _ => by kernel_rfl) (fun r h => g38_ok k a0 r h) (fun _ => by kernel_rfl) (fun x8_1 hx8_1 => ?_)
                  let E12 : Env := ((3, .int .i64 x8_1.2) :: (2, .int .i64 x8_1.1) :: (60, .int .i64 x8_1.2) :: (59, .int .i64 x8_1.1) :: (58, .tuple [.int .i64 x8_1.1, .int .i64 x8_1.2]) :: (57, .str a0) :: (55, .bool true) :: E11)
                  refine ok_run 6 (p' := .fin) (env' := E12) (H' := (mkH [])) (by kernel_rfl) ?_
                  exact ok_ret (r := (x8_1.1, x8_1.2)) (xs := [.int .i64 x8_1.1, .int .i64 x8_1.2]) (v := .tuple [.int .i64 x8_1.1, .int .i64 x8_1.2]) (by kernel_rfl) (by kernel_rfl) (by kernel_rfl) (.pures (by kernel_rfl)) (by kernel_rfl)
                · refine ok_run 7 (p' := g20p27) (env' := ((61, .bool (decide (x7_1 = 1))) :: (62, .bool (decide (x7_1 = 1))) :: (55, .bool false) :: E11)) (H' := (mkH [])) (by kernel_rfl) ?_
                  refine ok_keep [0, 5, 54, 61] (env' := [(0, .str a0), (5, .int .i64 x7_1), (54, .int .i64 x7_1), (61, .bool (decide (x7_1 = 1)))]) (by kernel_rfl) ?_
                  refine ok_jn (f := fun (z13 : Bool) => if z13 then ((g39 k a0).bind fun x9_1 => (subL a0 none (some x9_1)).bind fun x10_2 => (g40 k x10_2).bind fun x10_3 => jn (fun (z14 : Int) => some (x9_1, z14)) (fun j14 => if x10_3 then (j14 8) else (j14 x7_1))) else ((g41 k a0 (0 : Int)).bind fun x11_1 => some (x11_1, (9 : Int)))) g20p28 (fun (z13 : Bool) => [(0, .str a0), (5, .int .i64 x7_1), (61, .bool z13)]) (fun (z13 : Bool) => (mkH [])) (fun z13 => ?_) (fun j13 hj13 => ?_)
                  · refine ok_split 61 (b := z13) (by kernel_rfl) (fun hb => ?_) (fun hb => ?_)
                    · let E13 : Env := [(64, .str a0), (61, .bool true), (0, .str a0), (5, .int .i64 x7_1), (61, .bool z13)]
                      refine ok_run 4 (p' := (atN 1 (ctl1 g20p30))) (env' := E13) (H' := (mkH [])) (by kernel_rfl) ?_
                      refine ok_call (fun (x9_1 : Int) => .int .i64 x9_1) (atN 2 (ctl1 g20p30)) (fun x9_1 => ((65, .int .i64 x9_1) :: E13)) (fi := 39) (args := [.str a0]) (by kernel_rfl) (by kernel_rfl) (fun _ => by kernel_rfl) (fun r h => g39_ok k a0 r h) (fun _ => by kernel_rfl) (fun x9_1 hx9_1 => ?_)
                      refine ok_run 7 (p' := (atN 2 (ctl1 g20p32))) (env' := ((67, .int .i64 x9_1) :: (66, .str a0) :: (6, .int .i64 x9_1) :: (65, .int .i64 x9_1) :: E13)) (H' := (mkH [])) (by kernel_rfl) ?_
                      refine ok_chk (fun (x10_2 : (List Nat)) => (.str x10_2, (mkH []))) (atN 3 (ctl1 g20p32)) (fun x10_2 => ((68, .str x10_2) :: (67, .int .i64 x9_1) :: (66, .str a0) :: (6, .int .i64 x9_1) :: (65, .int .i64 x9_1) :: E13)) (subH none (some x9_1) (by kernel_rfl)) (fun _ => by kernel_rfl) (fun x10_2 hx10_2 => ?_)
                      refine ok_call (fun (x10_3 : Bool) => .bool x10_3) (atN 4 (ctl1 g20p32)) (fun x10_3 => ((69, .bool x10_3) :: (68, .str x10_2) :: (67, .int .i64 x9_1) :: (66, .str a0) :: (6, .int .i64 x9_1) :: (65, .int .i64 x9_1) :: E13)) (fi := 40) (args := [.str x10_2]) (by kernel_rfl) (by kernel_rfl) (fun _ => by kernel_rfl) (fun r h => g40_ok k x10_2 r h) (fun _ => by kernel_rfl) (fun x10_3 hx10_3 => ?_)
                      let E14 : Env := ((69, .bool x10_3) :: (68, .str x10_2) :: (67, .int .i64 x9_1) :: (66, .str a0) :: (6, .int .i64 x9_1) :: (65, .int .i64 x9_1) :: E13)
                      refine ok_run 1 (p' := g20p33) (env' := E14) (H' := (mkH [])) (by kernel_rfl) ?_
                      refine ok_keep [5, 6, 69] (env' := [(5, .int .i64 x7_1), (6, .int .i64 x9_1), (69, .bool x10_3)]) (by kernel_rfl) ?_
                      refine ok_jn (f := fun (z14 : Int) => some (x9_1, z14)) g20p35 (fun (z14 : Int) => [(5, .int .i64 z14), (6, .int .i64 x9_1)]) (fun (z14 : Int) => (mkH [])) (fun z14 => ?_) (fun j14 hj14 => ?_)
                      · let E15 : Env := [(3, .int .i64 z14), (2, .int .i64 x9_1), (71, .int .i64 z14), (70, .int .i64 x9_1), (5, .int .i64 z14), (6, .int .i64 x9_1)]
                        refine ok_run 7 (p' := .fin) (env' := E15) (H' := (mkH [])) (by kernel_rfl) ?_
                        exact ok_ret (r := (x9_1, z14)) (xs := [.int .i64 x9_1, .int .i64 z14]) (v := .tuple [.int .i64 x9_1, .int .i64 z14]) (by kernel_rfl) (by kernel_rfl) (by kernel_rfl) (.pures (by kernel_rfl)) (by kernel_rfl)
                      · refine ok_split 69 (b := x10_3) (by kernel_rfl) (fun hb => ?_) (fun hb => ?_)
                        · let E16 : Env := [(5, .int .i64 8), (69, .bool true), (5, .int .i64 x7_1), (6, .int .i64 x9_1), (69, .bool x10_3)]
                          refine ok_run 5 (p' := g20p35) (env' := E16) (H' := (mkH [])) (by kernel_rfl) ?_
                          refine ok_keep [5, 6] (env' := [(5, .int .i64 8), (6, .int .i64 x9_1)]) (by kernel_rfl) ?_
                          exact hj14 8
                        · refine ok_run 3 (p' := g20p35) (env' := [(69, .bool false), (5, .int .i64 x7_1), (6, .int .i64 x9_1), (69, .bool x10_3)]) (H' := (mkH [])) (by kernel_rfl) ?_
                          refine ok_keep [5, 6] (env' := [(5, .int .i64 x7_1), (6, .int .i64 x9_1)]) (by kernel_rfl) ?_
                          exact hj14 x7_1
                    · let E17 : Env := [(72, .str a0), (61, .bool false), (0, .str a0), (5, .int .i64 x7_1), (61, .bool z13)]
                      refine ok_run 5 (p' := (atN 1 (ctl1 g20p31))) (env' := E17) (H' := (mkH [])) (by kernel_rfl) ?_
                      refine ok_call (fun (x11_1 : Int) => .int .i64 x11_1) (atN 2 (ctl1 g20p31)) (fun x11_1 => ((73, .int .i64 x11_1) :: E17)) (fi := 41) (args := [.str a0, .int .i64 0]) (by kernel_rfl) (by kernel_rfl) (fun _ => by kernel_rfl) (fun r h => g41_ok k a0 (0 : Int) r h) (fun _ => by kernel_rfl) (fun x11_1 hx11_1 => ?_)
                      refine ok_run 4 (p' := .fin) (env' := ((3, .int .i64 9) :: (2, .int .i64 x11_1) :: (73, .int .i64 x11_1) :: E17)) (H' := (mkH [])) (by kernel_rfl) ?_
                      exact ok_ret (r := (x11_1, (9 : Int))) (xs := [.int .i64 x11_1, .int .i64 9]) (v := .tuple [.int .i64 x11_1, .int .i64 9]) (by kernel_rfl) (by kernel_rfl) (by kernel_rfl) (.pures (by kernel_rfl)) (by kernel_rfl)
                  · refine ok_split 61 (b := decide (x7_1 = 1)) (by kernel_rfl) (fun hb => ?_) (fun hb => ?_)
                    · let E18 : Env := [(61, .bool true), (0, .str a0), (5, .int .i64 x7_1), (54, .int .i64 x7_1), (61, .bool (decide (x7_1 = 1)))]
                      refine ok_run 2 (p' := g20p28) (env' := E18) (H' := (mkH [])) (by kernel_rfl) ?_
                      refine ok_keep [0, 5, 61] (env' := [(0, .str a0), (5, .int .i64 x7_1), (61, .bool true)]) (by kernel_rfl) ?_
                      exact hj13 true
                    · let E19 : Env := [(61, .bool (decide (x7_1 = 2))), (63, .bool (decide (x7_1 = 2))), (61, .bool false), (0, .str a0), (5, .int .i64 x7_1), (54, .int .i64 x7_1), (61, .bool (decide (x7_1 = 1)))]
                      refine ok_run 5 (p' := g20p28) (env' := E19) (H' := (mkH [])) (by kernel_rfl) ?_
                      refine ok_keep [0, 5, 61] (env' := [(0, .str a0), (5, .int .i64 x7_1), (61, .bool (decide (x7_1 = 2)))]) (by kernel_rfl) ?_
                      exact hj13 (decide (x7_1 = 2))
    · refine ok_split 17 (b := decide (x0_1 = 46)) (by kernel_rfl) (fun hb => ?_) (fun hb => ?_)
      · let E20 : Env := ((21, .bool (decide ((a0.length : Int) = 1))) :: (20, .bool (decide ((a0.length : Int) = 1))) :: (19, .int .i64 (a0.length : Int)) :: (18, .str a0) :: (17, .bool true) :: (17, .bool (decide (x0_1 = 46))) :: (16, .bool (decide (x0_1 = 46))) :: (15, .int .u8 x0_1) :: (9, .bool false) :: E1)
        refine ok_run 4 (p' := (atN 7 (ctl1 g20p5))) (env' := E20) (H' := (mkH [])) (by kernel_rfl) ?_
        refine ok_split 21 (b := decide ((a0.length : Int) = 1)) (by kernel_rfl) (fun hb => ?_) (fun hb => ?_)
        · let E21 : Env := ((14, .bool true) :: (31, .bool true) :: (30, .bool true) :: (29, .tuple []) :: (28, .tuple []) :: (27, .tuple []) :: (26, .bool true) :: (25, .bool true) :: (24, .tuple []) :: (23, .tuple []) :: (22, .tuple []) :: (21, .bool true) :: E20)
          refine ok_run 12 (p' := g20p7) (env' := E21) (H' := (mkH [])) (by kernel_rfl) ?_
          refine ok_keep [0, 4, 14] (env' := [(0, .str a0), (4, .int .u8 x0_1), (14, .bool true)]) (by kernel_rfl) ?_
          exact hj12 true
        · refine ok_run 1 (p' := (atN 8 (ctl1 g20p5))) (env' := ((22, .str a0) :: (21, .bool false) :: E20)) (H' := (mkH [])) (by kernel_rfl) ?_
          refine ok_chk (fun (x2_8 : Int) => (.int .u8 x2_8, (mkH []))) (atN 9 (ctl1 g20p5)) (fun x2_8 => ((23, .int .u8 x2_8) :: (22, .str a0) :: (21, .bool false) :: E20)) (idxH (by kernel_rfl)) (fun _ => by kernel_rfl) (fun x2_8 hx2_8 => ?_)
          refine ok_call (fun (x2_9 : Bool) => .bool x2_9) (atN 10 (ctl1 g20p5)) (fun x2_9 => ((24, .bool x2_9) :: (23, .int .u8 x2_8) :: (22, .str a0) :: (21, .bool false) :: E20)) (fi := 30) (args := [.int .u8 x2_8]) (by kernel_rfl) (by kernel_rfl) (fun _ => by kernel_rfl) (fun r h => g30_ok k x2_8 r h) (fun _ => by kernel_rfl) (fun x2_9 hx2_9 => ?_)
          let E22 : Env := ((26, .bool x2_9) :: (25, .bool x2_9) :: (24, .bool x2_9) :: (23, .int .u8 x2_8) :: (22, .str a0) :: (21, .bool false) :: E20)
          refine ok_run 2 (p' := (atN 12 (ctl1 g20p5))) (env' := E22) (H' := (mkH [])) (by kernel_rfl) ?_
          refine ok_split 26 (b := x2_9) (by kernel_rfl) (fun hb => ?_) (fun hb => ?_)
          · let E23 : Env := ((14, .bool true) :: (31, .bool true) :: (30, .bool true) :: (29, .tuple []) :: (28, .tuple []) :: (27, .tuple []) :: (26, .bool true) :: E22)
            refine ok_run 7 (p' := g20p7) (env' := E23) (H' := (mkH [])) (by kernel_rfl) ?_
            refine ok_keep [0, 4, 14] (env' := [(0, .str a0), (4, .int .u8 x0_1), (14, .bool true)]) (by kernel_rfl) ?_
            exact hj12 true
          · refine ok_run 1 (p' := (atN 13 (ctl1 g20p5))) (env' := ((27, .str a0) :: (26, .bool false) :: E22)) (H' := (mkH [])) (by kernel_rfl) ?_
            refine ok_chk (fun (x2_13 : Int) => (.int .u8 x2_13, (mkH []))) (atN 14 (ctl1 g20p5)) (fun x2_13 => ((28, .int .u8 x2_13) :: (27, .str a0) :: (26, .bool false) :: E22)) (idxH (by kernel_rfl)) (fun _ => by kernel_rfl) (fun x2_13 hx2_13 => ?_)
            let E24 : Env := ((14, .bool (decide (x2_13 = 37))) :: (31, .bool (decide (x2_13 = 37))) :: (30, .bool (decide (x2_13 = 37))) :: (29, .bool (decide (x2_13 = 37))) :: (28, .int .u8 x2_13) :: (27, .str a0) :: (26, .bool false) :: E22)
            refine ok_run 5 (p' := g20p7) (env' := E24) (H' := (mkH [])) (by kernel_rfl) ?_
            refine ok_keep [0, 4, 14] (env' := [(0, .str a0), (4, .int .u8 x0_1), (14, .bool (decide (x2_13 = 37)))]) (by kernel_rfl) ?_
            exact hj12 (decide (x2_13 = 37))
      · let E25 : Env := ((14, .bool false) :: (31, .bool false) :: (30, .tuple []) :: (29, .tuple []) :: (28, .tuple []) :: (27, .tuple []) :: (26, .tuple []) :: (25, .tuple []) :: (24, .tuple []) :: (23, .tuple []) :: (22, .tuple []) :: (21, .tuple []) :: (20, .tuple []) :: (19, .tuple []) :: (18, .tuple []) :: (17, .bool false) :: (17, .bool (decide (x0_1 = 46))) :: (16, .bool (decide (x0_1 = 46))) :: (15, .int .u8 x0_1) :: (9, .bool false) :: E1)
        refine ok_run 16 (p' := g20p7) (env' := E25) (H' := (mkH [])) (by kernel_rfl) ?_
        refine ok_keep [0, 4, 14] (env' := [(0, .str a0), (4, .int .u8 x0_1), (14, .bool false)]) (by kernel_rfl) ?_
        exact hj12 false
end Go.Proofs.Ytokcjgjgojlhbaa.Am
