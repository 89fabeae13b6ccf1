/- LawScanEscapes, part 6: whatever the input, the law comes out true: our texts, joined by a tool, without what the claim does not name. -/
import Derived.Test.YtokcjgjgojlhbaaPkScanEscapes5
import Derived.SizedLaws
import Derived.ChangeSlices
import Derived.Below
import Derived.Test.YtokcjgjgojlhbaaRows
import Derived.WalkKit
import Derived.ProofKit
import Derived.OpenShut
import Derived.ShutString
import Derived.ChangeOld
set_option maxRecDepth 100000
set_option linter.unusedVariables false
namespace Go.Proofs.Ytokcjgjgojlhbaa.Am
noncomputable section
open Go
theorem g9_l10_ok (k : Nat)  (a0 : (List Int)) (z9 : (List Nat) × Int)  : ∀ (n : Nat) (y10_0 : (List Nat)) (y10_1 : Int), Ok X9 g9p11 [(0, .vec (a0).length 1 ((a0).flatMap e3)), (5, .str z9.1), (6, .int .i64 z9.2), (7, .str y10_0), (8, .int .i64 y10_1)] (mkH []) (g9_l10 k a0 z9 n y10_0 y10_1)
 | 0, _, _ => ok_none
 | n + 1, y10_0, y10_1 => by
  have ih := g9_l10_ok k a0 z9 n
  rw [g9_l10_s]
  refine ok_ent (p' := nav [0] g9p11) (by kernel_rfl) ?_
  let E3 : Env := [(23, .bool (decide (y10_1 < (a0.length : Int)))), (22, .int .i64 (a0.length : Int)), (21, .vec (a0).length 1 ((a0).flatMap e3)), (20, .int .i64 y10_1), (0, .vec (a0).length 1 ((a0).flatMap e3)), (5, .str z9.1), (6, .int .i64 z9.2), (7, .str y10_0), (8, .int .i64 y10_1)]
  refine oR 8 (p' := g9p13) (eE := E3) (H' := (mkH [])) (by kernel_rfl) ?_
  refine oS 23 (b := decide (y10_1 < (a0.length : Int))) (by kernel_rfl) (fun hb => ?_) (fun hb => ?_)
  ·refine oR 8 (p' := (atN 2 (ctl1 g9p14))) (eE := ((27, .int .i64 y10_1) :: (26, .vec (a0).length 1 ((a0).flatMap e3)) :: (23, .bool true) :: E3)) (H' := (mkH [])) (by kernel_rfl) ?_
   refine oH (fun (x1_2 : Int) => (.vptr [.int .i64 x1_2], (mkH []))) (atN 3 (ctl1 g9p14)) (fun x1_2 => ((28, .vptr [.int .i64 x1_2]) :: (27, .int .i64 y10_1) :: (26, .vec (a0).length 1 ((a0).flatMap e3)) :: (23, .bool true) :: E3)) (vidxH (sz := 1) e3_len (by kernel_rfl)) (fun _ => by kernel_rfl) (fun x1_2 hx1_2 => ?_)
   let E4 : Env := ((9, .int .i64 (fW .i64 (32 + fW .i64 ((fW .u64 x1_2).tmod 53248)))) :: (33, .int .i64 (fW .i64 (32 + fW .i64 ((fW .u64 x1_2).tmod 53248)))) :: (32, .int .i64 (fW .i64 ((fW .u64 x1_2).tmod 53248))) :: (31, .int .u64 ((fW .u64 x1_2).tmod 53248)) :: (30, .int .u64 (fW .u64 x1_2)) :: (29, .int .i64 x1_2) :: (28, .vptr [.int .i64 x1_2]) :: (27, .int .i64 y10_1) :: (26, .vec (a0).length 1 ((a0).flatMap e3)) :: (23, .bool true) :: E3)
   refine oR 9 (p' := g9p16) (eE := E4) (H' := (mkH [])) (by kernel_rfl) ?_
   refine oK [0, 5, 6, 7, 8, 9] (eE := [(0, .vec (a0).length 1 ((a0).flatMap e3)), (5, .str z9.1), (6, .int .i64 z9.2), (7, .str y10_0), (8, .int .i64 y10_1), (9, .int .i64 (fW .i64 (32 + fW .i64 ((fW .u64 x1_2).tmod 53248))))]) (by kernel_rfl) ?_
   let E5 : Env := [(35, .bool (decide (fW .i64 (32 + fW .i64 ((fW .u64 x1_2).tmod 53248)) = 127))), (34, .int .i64 (fW .i64 (32 + fW .i64 ((fW .u64 x1_2).tmod 53248)))), (0, .vec (a0).length 1 ((a0).flatMap e3)), (5, .str z9.1), (6, .int .i64 z9.2), (7, .str y10_0), (8, .int .i64 y10_1), (9, .int .i64 (fW .i64 (32 + fW .i64 ((fW .u64 x1_2).tmod 53248))))]
   refine oR 4 (p' := g9p18) (eE := E5) (H' := (mkH [])) (by kernel_rfl) ?_
   refine oJ (f := fun (z11 : (List Nat) × Int) => (g9_l10 k a0 z9 n) z11.1 (fW .i64 (z11.2 + 1))) g9p20 (fun (z11 : (List Nat) × Int) => [(0, .vec (a0).length 1 ((a0).flatMap e3)), (5, .str z9.1), (6, .int .i64 z9.2), (7, .str z11.1), (8, .int .i64 z11.2)]) (fun (z11 : (List Nat) × Int) => (mkH [])) (fun z11 => ?_) (fun j11 hj11 => ?_)
   ·let E6 : Env := [(8, .int .i64 (fW .i64 (z11.2 + 1))), (25, .int .i64 (fW .i64 (z11.2 + 1))), (24, .int .i64 z11.2), (0, .vec (a0).length 1 ((a0).flatMap e3)), (5, .str z9.1), (6, .int .i64 z9.2), (7, .str z11.1), (8, .int .i64 z11.2)]
    refine oR 5 (p' := g9p11) (eE := E6) (H' := (mkH [])) (by kernel_rfl) ?_
    refine oK [0, 5, 6, 7, 8] (eE := [(0, .vec (a0).length 1 ((a0).flatMap e3)), (5, .str z9.1), (6, .int .i64 z9.2), (7, .str z11.1), (8, .int .i64 (fW .i64 (z11.2 + 1)))]) (by kernel_rfl) ?_
    exact ih z11.1 (fW .i64 (z11.2 + 1))
   ·refine oS 35 (b := decide (fW .i64 (32 + fW .i64 ((fW .u64 x1_2).tmod 53248)) = 127)) (by kernel_rfl) (fun hb => ?_) (fun hb => ?_)
    ·refine oR 2 (p' := g9p20) (eE := ((35, .bool true) :: E5)) (H' := (mkH [])) (by kernel_rfl) ?_
     refine oK [0, 5, 6, 7, 8] (eE := [(0, .vec (a0).length 1 ((a0).flatMap e3)), (5, .str z9.1), (6, .int .i64 z9.2), (7, .str y10_0), (8, .int .i64 y10_1)]) (by kernel_rfl) ?_
     exact hj11 (y10_0, y10_1)
    ·refine oR 7 (p' := (atN 2 (ctl1 g9p21))) (eE := ((37, .str z9.1) :: (36, .int .i64 (fW .i64 (32 + fW .i64 ((fW .u64 x1_2).tmod 53248)))) :: (35, .bool false) :: E5)) (H' := (mkH [])) (by kernel_rfl) ?_
     refine oH (fun (x2_2 : Int) => (.int .u8 x2_2, (mkH []))) (atN 3 (ctl1 g9p21)) (fun x2_2 => ((38, .int .u8 x2_2) :: (37, .str z9.1) :: (36, .int .i64 (fW .i64 (32 + fW .i64 ((fW .u64 x1_2).tmod 53248)))) :: (35, .bool false) :: E5)) (idxH (by kernel_rfl)) (fun _ => by kernel_rfl) (fun x2_2 hx2_2 => ?_)
     let E7 : Env := ((41, .bool (decide (fW .i64 (32 + fW .i64 ((fW .u64 x1_2).tmod 53248)) = fW .i64 x2_2))) :: (40, .bool (decide (fW .i64 (32 + fW .i64 ((fW .u64 x1_2).tmod 53248)) = fW .i64 x2_2))) :: (39, .int .i64 (fW .i64 x2_2)) :: (38, .int .u8 x2_2) :: (37, .str z9.1) :: (36, .int .i64 (fW .i64 (32 + fW .i64 ((fW .u64 x1_2).tmod 53248)))) :: (35, .bool false) :: E5)
     refine oR 3 (p' := (atN 6 (ctl1 g9p21))) (eE := E7) (H' := (mkH [])) (by kernel_rfl) ?_
     refine oJ (f := fun (z12 : Bool × (List Nat) × Int) => jn (fun (z13 : (List Nat) × Int) => (catS z13.1 (utf (fW .i32 (fW .i64 (32 + fW .i64 ((fW .u64 x1_2).tmod 53248)))))).bind fun x8_4 => j11 (x8_4, z13.2)) (fun j13 => if z12.1 then ((catS z12.2.1 ([92] : List Nat)).bind fun x7_1 => j13 (x7_1, z12.2.2)) else (j13 (z12.2.1, z12.2.2)))) g9p23 (fun (z12 : Bool × (List Nat) × Int) => [(0, .vec (a0).length 1 ((a0).flatMap e3)), (5, .str z9.1), (6, .int .i64 z9.2), (7, .str z12.2.1), (8, .int .i64 z12.2.2), (9, .int .i64 (fW .i64 (32 + fW .i64 ((fW .u64 x1_2).tmod 53248)))), (49, .bool z12.1)]) (fun (z12 : Bool × (List Nat) × Int) => (mkH [])) (fun z12 => ?_) (fun j12 hj12 => ?_)
     ·refine oJ (f := fun (z13 : (List Nat) × Int) => (catS z13.1 (utf (fW .i32 (fW .i64 (32 + fW .i64 ((fW .u64 x1_2).tmod 53248)))))).bind fun x8_4 => j11 (x8_4, z13.2)) g9p25 (fun (z13 : (List Nat) × Int) => [(0, .vec (a0).length 1 ((a0).flatMap e3)), (5, .str z9.1), (6, .int .i64 z9.2), (7, .str z13.1), (8, .int .i64 z13.2), (9, .int .i64 (fW .i64 (32 + fW .i64 ((fW .u64 x1_2).tmod 53248))))]) (fun (z13 : (List Nat) × Int) => (mkH [])) (fun z13 => ?_) (fun j13 hj13 => ?_)
      ·let E8 : Env := [(55, .str (utf (fW .i32 (fW .i64 (32 + fW .i64 ((fW .u64 x1_2).tmod 53248)))))), (54, .int .i32 (fW .i32 (fW .i64 (32 + fW .i64 ((fW .u64 x1_2).tmod 53248))))), (53, .int .i64 (fW .i64 (32 + fW .i64 ((fW .u64 x1_2).tmod 53248)))), (52, .str z13.1), (0, .vec (a0).length 1 ((a0).flatMap e3)), (5, .str z9.1), (6, .int .i64 z9.2), (7, .str z13.1), (8, .int .i64 z13.2), (9, .int .i64 (fW .i64 (32 + fW .i64 ((fW .u64 x1_2).tmod 53248))))]
       refine oR 5 (p' := (atN 4 (ctl1 g9p25))) (eE := E8) (H' := (mkH [])) (by kernel_rfl) ?_
       refine oH (fun (x8_4 : (List Nat)) => (.str x8_4, (mkH []))) (atN 5 (ctl1 g9p25)) (fun x8_4 => ((56, .str x8_4) :: E8)) (catH (by kernel_rfl)) (fun _ => by kernel_rfl) (fun x8_4 hx8_4 => ?_)
       refine oR 2 (p' := g9p20) (eE := ((7, .str x8_4) :: (56, .str x8_4) :: E8)) (H' := (mkH [])) (by kernel_rfl) ?_
       refine oK [0, 5, 6, 7, 8] (eE := [(0, .vec (a0).length 1 ((a0).flatMap e3)), (5, .str z9.1), (6, .int .i64 z9.2), (7, .str x8_4), (8, .int .i64 z13.2)]) (by kernel_rfl) ?_
       exact hj11 (x8_4, z13.2)
      ·refine oS 49 (b := z12.1) (by kernel_rfl) (fun hb => ?_) (fun hb => ?_)
       ·let E9 : Env := [(50, .str z12.2.1), (49, .bool true), (0, .vec (a0).length 1 ((a0).flatMap e3)), (5, .str z9.1), (6, .int .i64 z9.2), (7, .str z12.2.1), (8, .int .i64 z12.2.2), (9, .int .i64 (fW .i64 (32 + fW .i64 ((fW .u64 x1_2).tmod 53248)))), (49, .bool z12.1)]
        refine oR 3 (p' := (atN 1 (ctl1 g9p24))) (eE := E9) (H' := (mkH [])) (by kernel_rfl) ?_
        refine oH (fun (x7_1 : (List Nat)) => (.str x7_1, (mkH []))) (atN 2 (ctl1 g9p24)) (fun x7_1 => ((51, .str x7_1) :: E9)) (catH (by kernel_rfl)) (fun _ => by kernel_rfl) (fun x7_1 hx7_1 => ?_)
        refine oR 2 (p' := g9p25) (eE := ((7, .str x7_1) :: (51, .str x7_1) :: E9)) (H' := (mkH [])) (by kernel_rfl) ?_
        refine oK [0, 5, 6, 7, 8, 9] (eE := [(0, .vec (a0).length 1 ((a0).flatMap e3)), (5, .str z9.1), (6, .int .i64 z9.2), (7, .str x7_1), (8, .int .i64 z12.2.2), (9, .int .i64 (fW .i64 (32 + fW .i64 ((fW .u64 x1_2).tmod 53248))))]) (by kernel_rfl) ?_
        exact hj13 (x7_1, z12.2.2)
       ·let E10 : Env := [(49, .bool false), (0, .vec (a0).length 1 ((a0).flatMap e3)), (5, .str z9.1), (6, .int .i64 z9.2), (7, .str z12.2.1), (8, .int .i64 z12.2.2), (9, .int .i64 (fW .i64 (32 + fW .i64 ((fW .u64 x1_2).tmod 53248)))), (49, .bool z12.1)]
        refine oR 2 (p' := g9p25) (eE := E10) (H' := (mkH [])) (by kernel_rfl) ?_
        refine oK [0, 5, 6, 7, 8, 9] (eE := [(0, .vec (a0).length 1 ((a0).flatMap e3)), (5, .str z9.1), (6, .int .i64 z9.2), (7, .str z12.2.1), (8, .int .i64 z12.2.2), (9, .int .i64 (fW .i64 (32 + fW .i64 ((fW .u64 x1_2).tmod 53248))))]) (by kernel_rfl) ?_
        exact hj13 (z12.2.1, z12.2.2)
     ·refine oS 41 (b := decide (fW .i64 (32 + fW .i64 ((fW .u64 x1_2).tmod 53248)) = fW .i64 x2_2)) (by kernel_rfl) (fun hb => ?_) (fun hb => ?_)
      ·let E11 : Env := ((49, .bool true) :: (48, .tuple []) :: (47, .tuple []) :: (46, .tuple []) :: (45, .bool true) :: (44, .bool true) :: (43, .tuple []) :: (42, .tuple []) :: (41, .bool true) :: E7)
       refine oR 9 (p' := g9p23) (eE := E11) (H' := (mkH [])) (by kernel_rfl) ?_
       refine oK [0, 5, 6, 7, 8, 9, 49] (eE := [(0, .vec (a0).length 1 ((a0).flatMap e3)), (5, .str z9.1), (6, .int .i64 z9.2), (7, .str y10_0), (8, .int .i64 y10_1), (9, .int .i64 (fW .i64 (32 + fW .i64 ((fW .u64 x1_2).tmod 53248)))), (49, .bool true)]) (by kernel_rfl) ?_
       exact hj12 (true, y10_0, y10_1)
      ·let E12 : Env := ((45, .bool (decide (fW .i64 (32 + fW .i64 ((fW .u64 x1_2).tmod 53248)) = 92))) :: (44, .bool (decide (fW .i64 (32 + fW .i64 ((fW .u64 x1_2).tmod 53248)) = 92))) :: (43, .bool (decide (fW .i64 (32 + fW .i64 ((fW .u64 x1_2).tmod 53248)) = 92))) :: (42, .int .i64 (fW .i64 (32 + fW .i64 ((fW .u64 x1_2).tmod 53248)))) :: (41, .bool false) :: E7)
       refine oR 4 (p' := (atN 10 (ctl1 g9p21))) (eE := E12) (H' := (mkH [])) (by kernel_rfl) ?_
       refine oS 45 (b := decide (fW .i64 (32 + fW .i64 ((fW .u64 x1_2).tmod 53248)) = 92)) (by kernel_rfl) (fun hb => ?_) (fun hb => ?_)
       ·let E13 : Env := ((49, .bool true) :: (48, .tuple []) :: (47, .tuple []) :: (46, .tuple []) :: (45, .bool true) :: E12)
        refine oR 5 (p' := g9p23) (eE := E13) (H' := (mkH [])) (by kernel_rfl) ?_
        refine oK [0, 5, 6, 7, 8, 9, 49] (eE := [(0, .vec (a0).length 1 ((a0).flatMap e3)), (5, .str z9.1), (6, .int .i64 z9.2), (7, .str y10_0), (8, .int .i64 y10_1), (9, .int .i64 (fW .i64 (32 + fW .i64 ((fW .u64 x1_2).tmod 53248)))), (49, .bool true)]) (by kernel_rfl) ?_
        exact hj12 (true, y10_0, y10_1)
       ·let E14 : Env := ((49, .bool (decide (andI .i64 y10_1 3 = 3))) :: (48, .bool (decide (andI .i64 y10_1 3 = 3))) :: (47, .int .i64 (andI .i64 y10_1 3)) :: (46, .int .i64 y10_1) :: (45, .bool false) :: E12)
        refine oR 5 (p' := g9p23) (eE := E14) (H' := (mkH [])) (by kernel_rfl) ?_
        refine oK [0, 5, 6, 7, 8, 9, 49] (eE := [(0, .vec (a0).length 1 ((a0).flatMap e3)), (5, .str z9.1), (6, .int .i64 z9.2), (7, .str y10_0), (8, .int .i64 y10_1), (9, .int .i64 (fW .i64 (32 + fW .i64 ((fW .u64 x1_2).tmod 53248)))), (49, .bool (decide (andI .i64 y10_1 3 = 3)))]) (by kernel_rfl) ?_
        exact hj12 (decide (andI .i64 y10_1 3 = 3), y10_0, y10_1)
  ·refine oR 6 (p' := (atN 2 (ctl1 g9p15))) (eE := ((58, .str z9.1) :: (57, .str y10_0) :: (23, .bool false) :: E3)) (H' := (mkH [])) (by kernel_rfl) ?_
   refine oH (fun (x3_2 : (List Nat)) => (.str x3_2, (mkH []))) (atN 3 (ctl1 g9p15)) (fun x3_2 => ((59, .str x3_2) :: (58, .str z9.1) :: (57, .str y10_0) :: (23, .bool false) :: E3)) (catH (by kernel_rfl)) (fun _ => by kernel_rfl) (fun x3_2 hx3_2 => ?_)
   let E15 : Env := ((7, .str x3_2) :: (59, .str x3_2) :: (58, .str z9.1) :: (57, .str y10_0) :: (23, .bool false) :: E3)
   refine oR 3 (p' := g9p17) (eE := E15) (H' := (mkH [])) (by kernel_rfl) ?_
   refine oK [6, 7] (eE := [(6, .int .i64 z9.2), (7, .str x3_2)]) (by kernel_rfl) ?_
   refine oR 2 (p' := (atN 1 (ctl1 g9p17))) (eE := [(61, .str x3_2), (6, .int .i64 z9.2), (7, .str x3_2)]) (H' := (mkH [])) (by kernel_rfl) ?_
   refine oH (fun (x4_1 : (List Nat)) => (.str x4_1, (mkH []))) (atN 2 (ctl1 g9p17)) (fun x4_1 => [(62, .str x4_1), (61, .str x3_2), (6, .int .i64 z9.2), (7, .str x3_2)]) (catH (by kernel_rfl)) (fun _ => by kernel_rfl) (fun x4_1 hx4_1 => ?_)
   let E16 : Env := [(63, .str x3_2), (62, .str x4_1), (61, .str x3_2), (6, .int .i64 z9.2), (7, .str x3_2)]
   refine oR 1 (p' := (atN 3 (ctl1 g9p17))) (eE := E16) (H' := (mkH [])) (by kernel_rfl) ?_
   refine oH (fun (x4_3 : (List Nat)) => (.str x4_3, (mkH []))) (atN 4 (ctl1 g9p17)) (fun x4_3 => ((64, .str x4_3) :: E16)) (catH (by kernel_rfl)) (fun _ => by kernel_rfl) (fun x4_3 hx4_3 => ?_)
   refine oC (fun (x4_4 : ((List S28) × Int)) => .tuple [.vec (x4_4.1).length 3 ((x4_4.1).flatMap e29), .int .i64 x4_4.2]) (atN 5 (ctl1 g9p17)) (fun x4_4 => ((65, .tuple [.vec (x4_4.1).length 3 ((x4_4.1).flatMap e29), .int .i64 x4_4.2]) :: (64, .str x4_3) :: E16)) (fi := 11) (args := [.str x4_3]) (by kernel_rfl) (by kernel_rfl) (fun _ => by kernel_rfl) (fun r h => g11_ok k x4_3 r h) (fun _ => by kernel_rfl) (fun x4_4 hx4_4 => ?_)
   let E17 : Env := ((11, .int .i64 x4_4.2) :: (10, .vec (x4_4.1).length 3 ((x4_4.1).flatMap e29)) :: (67, .int .i64 x4_4.2) :: (66, .vec (x4_4.1).length 3 ((x4_4.1).flatMap e29)) :: (60, .tuple [.vec (x4_4.1).length 3 ((x4_4.1).flatMap e29), .int .i64 x4_4.2]) :: (65, .tuple [.vec (x4_4.1).length 3 ((x4_4.1).flatMap e29), .int .i64 x4_4.2]) :: (64, .str x4_3) :: E16)
   refine oR 7 (p' := g9p19) (eE := E17) (H' := (mkH [])) (by kernel_rfl) ?_
   refine oK [6, 7, 10, 11] (eE := [(6, .int .i64 z9.2), (7, .str x3_2), (10, .vec (x4_4.1).length 3 ((x4_4.1).flatMap e29)), (11, .int .i64 x4_4.2)]) (by kernel_rfl) ?_
   let E18 : Env := [(69, .str x3_2), (6, .int .i64 z9.2), (7, .str x3_2), (10, .vec (x4_4.1).length 3 ((x4_4.1).flatMap e29)), (11, .int .i64 x4_4.2)]
   refine oR 2 (p' := (atN 1 (ctl1 g9p19))) (eE := E18) (H' := (mkH [])) (by kernel_rfl) ?_
   refine oC (fun (x5_1 : ((List S28) × Int)) => .tuple [.vec (x5_1.1).length 3 ((x5_1.1).flatMap e29), .int .i64 x5_1.2]) (atN 2 (ctl1 g9p19)) (fun x5_1 => ((70, .tuple [.vec (x5_1.1).length 3 ((x5_1.1).flatMap e29), .int .i64 x5_1.2]) :: E18)) (fi := 12) (args := [.str x3_2]) (by kernel_rfl) (by kernel_rfl) (fun _ => by kernel_rfl) (fun r h => g12_ok k x3_2 r h) (fun _ => by kernel_rfl) (fun x5_1 hx5_1 => ?_)
   let E19 : Env := ((13, .int .i64 x5_1.2) :: (12, .vec (x5_1.1).length 3 ((x5_1.1).flatMap e29)) :: (72, .int .i64 x5_1.2) :: (71, .vec (x5_1.1).length 3 ((x5_1.1).flatMap e29)) :: (68, .tuple [.vec (x5_1.1).length 3 ((x5_1.1).flatMap e29), .int .i64 x5_1.2]) :: (70, .tuple [.vec (x5_1.1).length 3 ((x5_1.1).flatMap e29), .int .i64 x5_1.2]) :: E18)
   refine oR 8 (p' := (atN 0 (ctl1 g9p22))) (eE := E19) (H' := (mkH [])) (by kernel_rfl) ?_
   refine oC (fun (x6_0 : Bool) => .bool x6_0) (atN 1 (ctl1 g9p22)) (fun x6_0 => ((73, .bool x6_0) :: E19)) (fi := 10) (args := []) (by kernel_rfl) (by kernel_rfl) (fun _ => by kernel_rfl) (fun r h => g10_ok k  r h) (fun _ => by kernel_rfl) (fun x6_0 hx6_0 => ?_)
   refine oR 1 (p' := (atN 2 (ctl1 g9p22))) (eE := ((74, .bool x6_0) :: (73, .bool x6_0) :: E19)) (H' := (mkH [])) (by kernel_rfl) ?_
   refine oS 74 (b := x6_0) (by kernel_rfl) (fun hb => ?_) (fun hb => ?_)
   ·let E20 : Env := ((78, .bool (decide (x4_4.2 = 0))) :: (77, .bool (decide (x4_4.2 = 0))) :: (76, .bool (decide (x4_4.2 = 0))) :: (75, .int .i64 x4_4.2) :: (74, .bool true) :: (74, .bool x6_0) :: (73, .bool x6_0) :: E19)
    refine oR 4 (p' := (atN 6 (ctl1 g9p22))) (eE := E20) (H' := (mkH [])) (by kernel_rfl) ?_
    refine oS 78 (b := decide (x4_4.2 = 0)) (by kernel_rfl) (fun hb => ?_) (fun hb => ?_)
    ·let E21 : Env := ((82, .bool (decide (x5_1.2 = 0))) :: (81, .bool (decide (x5_1.2 = 0))) :: (80, .bool (decide (x5_1.2 = 0))) :: (79, .int .i64 x5_1.2) :: (78, .bool true) :: E20)
     refine oR 4 (p' := (atN 10 (ctl1 g9p22))) (eE := E21) (H' := (mkH [])) (by kernel_rfl) ?_
     refine oS 82 (b := decide (x5_1.2 = 0)) (by kernel_rfl) (fun hb => ?_) (fun hb => ?_)
     ·let E22 : Env := ((87, .bool (decide ((x5_1.1.length : Int) = 1))) :: (86, .bool (decide ((x5_1.1.length : Int) = 1))) :: (85, .bool (decide ((x5_1.1.length : Int) = 1))) :: (84, .int .i64 (x5_1.1.length : Int)) :: (83, .vec (x5_1.1).length 3 ((x5_1.1).flatMap e29)) :: (82, .bool true) :: E21)
      refine oR 5 (p' := (atN 15 (ctl1 g9p22))) (eE := E22) (H' := (mkH [])) (by kernel_rfl) ?_
      refine oS 87 (b := decide ((x5_1.1.length : Int) = 1)) (by kernel_rfl) (fun hb => ?_) (fun hb => ?_)
      ·let E23 : Env := ((92, .bool (decide ((x4_4.1.length : Int) = 2))) :: (91, .bool (decide ((x4_4.1.length : Int) = 2))) :: (90, .bool (decide ((x4_4.1.length : Int) = 2))) :: (89, .int .i64 (x4_4.1.length : Int)) :: (88, .vec (x4_4.1).length 3 ((x4_4.1).flatMap e29)) :: (87, .bool true) :: E22)
       refine oR 5 (p' := (atN 20 (ctl1 g9p22))) (eE := E23) (H' := (mkH [])) (by kernel_rfl) ?_
       refine oS 92 (b := decide ((x4_4.1.length : Int) = 2)) (by kernel_rfl) (fun hb => ?_) (fun hb => ?_)
       ·refine oR 1 (p' := (atN 21 (ctl1 g9p22))) (eE := ((93, .vec (x4_4.1).length 3 ((x4_4.1).flatMap e29)) :: (92, .bool true) :: E23)) (H' := (mkH [])) (by kernel_rfl) ?_
        refine oH (fun (x6_21 : S28) => (.vptr [.int .i64 x6_21.f0, .str x6_21.f1, .int .i64 x6_21.f2], (mkH []))) (atN 22 (ctl1 g9p22)) (fun x6_21 => ((94, .vptr [.int .i64 x6_21.f0, .str x6_21.f1, .int .i64 x6_21.f2]) :: (93, .vec (x4_4.1).length 3 ((x4_4.1).flatMap e29)) :: (92, .bool true) :: E23)) (vidxH (sz := 3) e29_len (by kernel_rfl)) (fun _ => by kernel_rfl) (fun x6_21 hx6_21 => ?_)
        let E24 : Env := ((100, .bool (decide (x6_21.f0 = z9.2))) :: (99, .bool (decide (x6_21.f0 = z9.2))) :: (98, .bool (decide (x6_21.f0 = z9.2))) :: (97, .int .i64 z9.2) :: (96, .int .i64 x6_21.f0) :: (95, .vptr [.int .i64 x6_21.f0, .str x6_21.f1, .int .i64 x6_21.f2]) :: (94, .vptr [.int .i64 x6_21.f0, .str x6_21.f1, .int .i64 x6_21.f2]) :: (93, .vec (x4_4.1).length 3 ((x4_4.1).flatMap e29)) :: (92, .bool true) :: E23)
        refine oR 6 (p' := (atN 28 (ctl1 g9p22))) (eE := E24) (H' := (mkH [])) (by kernel_rfl) ?_
        refine oS 100 (b := decide (x6_21.f0 = z9.2)) (by kernel_rfl) (fun hb => ?_) (fun hb => ?_)
        ·refine oR 1 (p' := (atN 29 (ctl1 g9p22))) (eE := ((101, .vec (x4_4.1).length 3 ((x4_4.1).flatMap e29)) :: (100, .bool true) :: E24)) (H' := (mkH [])) (by kernel_rfl) ?_
         refine oH (fun (x6_29 : S28) => (.vptr [.int .i64 x6_29.f0, .str x6_29.f1, .int .i64 x6_29.f2], (mkH []))) (atN 30 (ctl1 g9p22)) (fun x6_29 => ((102, .vptr [.int .i64 x6_29.f0, .str x6_29.f1, .int .i64 x6_29.f2]) :: (101, .vec (x4_4.1).length 3 ((x4_4.1).flatMap e29)) :: (100, .bool true) :: E24)) (vidxH (sz := 3) e29_len (by kernel_rfl)) (fun _ => by kernel_rfl) (fun x6_29 hx6_29 => ?_)
         let E25 : Env := ((108, .bool (eqL x6_29.f1 x3_2)) :: (107, .bool (eqL x6_29.f1 x3_2)) :: (106, .bool (eqL x6_29.f1 x3_2)) :: (105, .str x3_2) :: (104, .str x6_29.f1) :: (103, .vptr [.str x6_29.f1, .int .i64 x6_29.f2]) :: (102, .vptr [.int .i64 x6_29.f0, .str x6_29.f1, .int .i64 x6_29.f2]) :: (101, .vec (x4_4.1).length 3 ((x4_4.1).flatMap e29)) :: (100, .bool true) :: E24)
         refine oR 6 (p' := (atN 36 (ctl1 g9p22))) (eE := E25) (H' := (mkH [])) (by kernel_rfl) ?_
         refine oS 108 (b := eqL x6_29.f1 x3_2) (by kernel_rfl) (fun hb => ?_) (fun hb => ?_)
         ·refine oR 1 (p' := (atN 37 (ctl1 g9p22))) (eE := ((109, .vec (x4_4.1).length 3 ((x4_4.1).flatMap e29)) :: (108, .bool true) :: E25)) (H' := (mkH [])) (by kernel_rfl) ?_
          refine oH (fun (x6_37 : S28) => (.vptr [.int .i64 x6_37.f0, .str x6_37.f1, .int .i64 x6_37.f2], (mkH []))) (atN 38 (ctl1 g9p22)) (fun x6_37 => ((110, .vptr [.int .i64 x6_37.f0, .str x6_37.f1, .int .i64 x6_37.f2]) :: (109, .vec (x4_4.1).length 3 ((x4_4.1).flatMap e29)) :: (108, .bool true) :: E25)) (vidxH (sz := 3) e29_len (by kernel_rfl)) (fun _ => by kernel_rfl) (fun x6_37 hx6_37 => ?_)
          let E26 : Env := ((4, .bool (eqL x6_37.f1 x3_2)) :: (115, .bool (eqL x6_37.f1 x3_2)) :: (114, .bool (eqL x6_37.f1 x3_2)) :: (113, .str x3_2) :: (112, .str x6_37.f1) :: (111, .vptr [.str x6_37.f1, .int .i64 x6_37.f2]) :: (110, .vptr [.int .i64 x6_37.f0, .str x6_37.f1, .int .i64 x6_37.f2]) :: (109, .vec (x4_4.1).length 3 ((x4_4.1).flatMap e29)) :: (108, .bool true) :: E25)
          refine oR 8 (p' := .fin) (eE := E26) (H' := (mkH [])) (by kernel_rfl) ?_
          exact oT (r := (eqL x6_37.f1 x3_2)) (xs := [.bool (eqL x6_37.f1 x3_2)]) (v := .bool (eqL x6_37.f1 x3_2)) (by kernel_rfl) (by kernel_rfl) (by kernel_rfl) (.pures (by kernel_rfl)) (by kernel_rfl)
         ·let E27 : Env := ((4, .bool false) :: (115, .bool false) :: (114, .tuple []) :: (113, .tuple []) :: (112, .tuple []) :: (111, .tuple []) :: (110, .tuple []) :: (109, .tuple []) :: (108, .bool false) :: E25)
          refine oR 10 (p' := .fin) (eE := E27) (H' := (mkH [])) (by kernel_rfl) ?_
          exact oT (r := false) (xs := [.bool false]) (v := .bool false) (by kernel_rfl) (by kernel_rfl) (by kernel_rfl) (.pures (by kernel_rfl)) (by kernel_rfl)
        ·let E28 : Env := ((4, .bool false) :: (115, .bool false) :: (114, .tuple []) :: (113, .tuple []) :: (112, .tuple []) :: (111, .tuple []) :: (110, .tuple []) :: (109, .tuple []) :: (108, .bool false) :: (107, .bool false) :: (106, .tuple []) :: (105, .tuple []) :: (104, .tuple []) :: (103, .tuple []) :: (102, .tuple []) :: (101, .tuple []) :: (100, .bool false) :: E24)
         refine oR 18 (p' := .fin) (eE := E28) (H' := (mkH [])) (by kernel_rfl) ?_
         exact oT (r := false) (xs := [.bool false]) (v := .bool false) (by kernel_rfl) (by kernel_rfl) (by kernel_rfl) (.pures (by kernel_rfl)) (by kernel_rfl)
       ·let E29 : Env := ((4, .bool false) :: (115, .bool false) :: (114, .tuple []) :: (113, .tuple []) :: (112, .tuple []) :: (111, .tuple []) :: (110, .tuple []) :: (109, .tuple []) :: (108, .bool false) :: (107, .bool false) :: (106, .tuple []) :: (105, .tuple []) :: (104, .tuple []) :: (103, .tuple []) :: (102, .tuple []) :: (101, .tuple []) :: (100, .bool false) :: (99, .bool false) :: (98, .tuple []) :: (97, .tuple []) :: (96, .tuple []) :: (95, .tuple []) :: (94, .tuple []) :: (93, .tuple []) :: (92, .bool false) :: E23)
        refine oR 26 (p' := .fin) (eE := E29) (H' := (mkH [])) (by kernel_rfl) ?_
        exact oT (r := false) (xs := [.bool false]) (v := .bool false) (by kernel_rfl) (by kernel_rfl) (by kernel_rfl) (.pures (by kernel_rfl)) (by kernel_rfl)
      ·let E30 : Env := ((4, .bool false) :: (115, .bool false) :: (114, .tuple []) :: (113, .tuple []) :: (112, .tuple []) :: (111, .tuple []) :: (110, .tuple []) :: (109, .tuple []) :: (108, .bool false) :: (107, .bool false) :: (106, .tuple []) :: (105, .tuple []) :: (104, .tuple []) :: (103, .tuple []) :: (102, .tuple []) :: (101, .tuple []) :: (100, .bool false) :: (99, .bool false) :: (98, .tuple []) :: (97, .tuple []) :: (96, .tuple []) :: (95, .tuple []) :: (94, .tuple []) :: (93, .tuple []) :: (92, .bool false) :: (91, .bool false) :: (90, .tuple []) :: (89, .tuple []) :: (88, .tuple []) :: (87, .bool false) :: E22)
       refine oR 31 (p' := .fin) (eE := E30) (H' := (mkH [])) (by kernel_rfl) ?_
       exact oT (r := false) (xs := [.bool false]) (v := .bool false) (by kernel_rfl) (by kernel_rfl) (by kernel_rfl) (.pures (by kernel_rfl)) (by kernel_rfl)
     ·let E31 : Env := ((4, .bool false) :: (115, .bool false) :: (114, .tuple []) :: (113, .tuple []) :: (112, .tuple []) :: (111, .tuple []) :: (110, .tuple []) :: (109, .tuple []) :: (108, .bool false) :: (107, .bool false) :: (106, .tuple []) :: (105, .tuple []) :: (104, .tuple []) :: (103, .tuple []) :: (102, .tuple []) :: (101, .tuple []) :: (100, .bool false) :: (99, .bool false) :: (98, .tuple []) :: (97, .tuple []) :: (96, .tuple []) :: (95, .tuple []) :: (94, .tuple []) :: (93, .tuple []) :: (92, .bool false) :: (91, .bool false) :: (90, .tuple []) :: (89, .tuple []) :: (88, .tuple []) :: (87, .bool false) :: (86, .bool false) :: (85, .tuple []) :: (84, .tuple []) :: (83, .tuple []) :: (82, .bool false) :: E21)
      refine oR 36 (p' := .fin) (eE := E31) (H' := (mkH [])) (by kernel_rfl) ?_
      exact oT (r := false) (xs := [.bool false]) (v := .bool false) (by kernel_rfl) (by kernel_rfl) (by kernel_rfl) (.pures (by kernel_rfl)) (by kernel_rfl)
    ·let E32 : Env := ((4, .bool false) :: (115, .bool false) :: (114, .tuple []) :: (113, .tuple []) :: (112, .tuple []) :: (111, .tuple []) :: (110, .tuple []) :: (109, .tuple []) :: (108, .bool false) :: (107, .bool false) :: (106, .tuple []) :: (105, .tuple []) :: (104, .tuple []) :: (103, .tuple []) :: (102, .tuple []) :: (101, .tuple []) :: (100, .bool false) :: (99, .bool false) :: (98, .tuple []) :: (97, .tuple []) :: (96, .tuple []) :: (95, .tuple []) :: (94, .tuple []) :: (93, .tuple []) :: (92, .bool false) :: (91, .bool false) :: (90, .tuple []) :: (89, .tuple []) :: (88, .tuple []) :: (87, .bool false) :: (86, .bool false) :: (85, .tuple []) :: (84, .tuple []) :: (83, .tuple []) :: (82, .bool false) :: (81, .bool false) :: (80, .tuple []) :: (79, .tuple []) :: (78, .bool false) :: E20)
     refine oR 40 (p' := .fin) (eE := E32) (H' := (mkH [])) (by kernel_rfl) ?_
     exact oT (r := false) (xs := [.bool false]) (v := .bool false) (by kernel_rfl) (by kernel_rfl) (by kernel_rfl) (.pures (by kernel_rfl)) (by kernel_rfl)
   ·let E33 : Env := ((4, .bool false) :: (115, .bool false) :: (114, .tuple []) :: (113, .tuple []) :: (112, .tuple []) :: (111, .tuple []) :: (110, .tuple []) :: (109, .tuple []) :: (108, .bool false) :: (107, .bool false) :: (106, .tuple []) :: (105, .tuple []) :: (104, .tuple []) :: (103, .tuple []) :: (102, .tuple []) :: (101, .tuple []) :: (100, .bool false) :: (99, .bool false) :: (98, .tuple []) :: (97, .tuple []) :: (96, .tuple []) :: (95, .tuple []) :: (94, .tuple []) :: (93, .tuple []) :: (92, .bool false) :: (91, .bool false) :: (90, .tuple []) :: (89, .tuple []) :: (88, .tuple []) :: (87, .bool false) :: (86, .bool false) :: (85, .tuple []) :: (84, .tuple []) :: (83, .tuple []) :: (82, .bool false) :: (81, .bool false) :: (80, .tuple []) :: (79, .tuple []) :: (78, .bool false) :: (77, .bool false) :: (76, .tuple []) :: (75, .tuple []) :: (74, .bool false) :: (74, .bool x6_0) :: (73, .bool x6_0) :: E19)
    refine oR 44 (p' := .fin) (eE := E33) (H' := (mkH [])) (by kernel_rfl) ?_
    exact oT (r := false) (xs := [.bool false]) (v := .bool false) (by kernel_rfl) (by kernel_rfl) (by kernel_rfl) (.pures (by kernel_rfl)) (by kernel_rfl)
def g9 (k : Nat) (a0 : (List Int)) (a1 : Bool) : Option Bool :=
 if (decide (30 < (a0.length : Int))) then ((g10 k).bind fun x0_0 => some x0_0) else (jn (fun (z9 : (List Nat) × Int) => g9_l10 k a0 z9 k z9.1 0) (fun j9 => if a1 then (j9 (([34] : List Nat), 6)) else (j9 (([39] : List Nat), 1))))
theorem g9_ok (k : Nat) (a0 : (List Int)) (a1 : Bool) (r : Bool) (h : g9 k a0 a1 = some r) : PureOk Try.prog 9 [.vec (a0).length 1 ((a0).flatMap e3), .bool a1] (.bool r) := by
 refine pure_of X9 (fun _ => rfl) Try.func9 (by decide +kernel) (by kernel_rfl) (t := g9 k a0 a1) ?_ h
 unfold g9
 refine oE (eE := [(0, .vec (a0).length 1 ((a0).flatMap e3)), (1, .bool a1)]) (by kernel_rfl) ?_
 let E1 : Env := [(16, .bool (decide (30 < (a0.length : Int)))), (15, .int .i64 (a0.length : Int)), (14, .vec (a0).length 1 ((a0).flatMap e3)), (4, .bool false), (0, .vec (a0).length 1 ((a0).flatMap e3)), (1, .bool a1)]
 refine oR 11 (p' := g9p2) (eE := E1) (H' := (mkH [])) (by kernel_rfl) ?_
 refine oS 16 (b := decide (30 < (a0.length : Int))) (by kernel_rfl) (fun hb => ?_) (fun hb => ?_)
 ·refine oR 3 (p' := (atN 0 (ctl1 g9p3))) (eE := ((16, .bool true) :: E1)) (H' := (mkH [])) (by kernel_rfl) ?_
  refine oC (fun (x0_0 : Bool) => .bool x0_0) (atN 1 (ctl1 g9p3)) (fun x0_0 => ((17, .bool x0_0) :: (16, .bool true) :: E1)) (fi := 10) (args := []) (by kernel_rfl) (by kernel_rfl) (fun _ => by kernel_rfl) (fun r h => g10_ok k  r h) (fun _ => by kernel_rfl) (fun x0_0 hx0_0 => ?_)
  refine oR 3 (p' := .fin) (eE := ((4, .bool x0_0) :: (17, .bool x0_0) :: (16, .bool true) :: E1)) (H' := (mkH [])) (by kernel_rfl) ?_
  exact oT (r := x0_0) (xs := [.bool x0_0]) (v := .bool x0_0) (by kernel_rfl) (by kernel_rfl) (by kernel_rfl) (.pures (by kernel_rfl)) (by kernel_rfl)
 ·refine oR 12 (p' := g9p7) (eE := ((18, .bool a1) :: (6, .int .i64 1) :: (5, .str [39]) :: (16, .bool false) :: E1)) (H' := (mkH [])) (by kernel_rfl) ?_
  refine oJ (f := fun (z9 : (List Nat) × Int) => g9_l10 k a0 z9 k z9.1 0) g9p9 (fun (z9 : (List Nat) × Int) => [(0, .vec (a0).length 1 ((a0).flatMap e3)), (5, .str z9.1), (6, .int .i64 z9.2)]) (fun (z9 : (List Nat) × Int) => (mkH [])) (fun z9 => ?_) (fun j9 hj9 => ?_)
  ·let E2 : Env := [(8, .int .i64 0), (7, .str z9.1), (19, .str z9.1), (0, .vec (a0).length 1 ((a0).flatMap e3)), (5, .str z9.1), (6, .int .i64 z9.2)]
   refine oR 11 (p' := g9p11) (eE := E2) (H' := (mkH [])) (by kernel_rfl) ?_
   refine oK [0, 5, 6, 7, 8] (eE := [(0, .vec (a0).length 1 ((a0).flatMap e3)), (5, .str z9.1), (6, .int .i64 z9.2), (7, .str z9.1), (8, .int .i64 0)]) (by kernel_rfl) ?_
   exact (g9_l10_ok k a0 z9 k) z9.1 0
  ·refine oS 18 (b := a1) (by kernel_rfl) (fun hb => ?_) (fun hb => ?_)
   ·let E34 : Env := ((6, .int .i64 6) :: (5, .str [34]) :: (18, .bool true) :: (18, .bool a1) :: (6, .int .i64 1) :: (5, .str [39]) :: (16, .bool false) :: E1)
    refine oR 6 (p' := g9p9) (eE := E34) (H' := (mkH [])) (by kernel_rfl) ?_
    refine oK [0, 5, 6] (eE := [(0, .vec (a0).length 1 ((a0).flatMap e3)), (5, .str [34]), (6, .int .i64 6)]) (by kernel_rfl) ?_
    exact hj9 (([34] : List Nat), 6)
   ·let E35 : Env := ((18, .bool false) :: (18, .bool a1) :: (6, .int .i64 1) :: (5, .str [39]) :: (16, .bool false) :: E1)
    refine oR 3 (p' := g9p9) (eE := E35) (H' := (mkH [])) (by kernel_rfl) ?_
    refine oK [0, 5, 6] (eE := [(0, .vec (a0).length 1 ((a0).flatMap e3)), (5, .str [39]), (6, .int .i64 1)]) (by kernel_rfl) ?_
    exact hj9 (([39] : List Nat), 1)
end
end Go.Proofs.Ytokcjgjgojlhbaa.Am
set_option maxRecDepth 100000
set_option linter.unusedVariables false
set_option linter.unusedSimpArgs false
namespace Go.Proofs.Ytokcjgjgojlhbaa.Am
open Go
theorem utf_of {c : Nat} (h : cpN c = true) : utf (c : Int) = enc c := by
 have hle := cp_le h
 have hv : Utf8.valid (c : Int) = true := by
  unfold cpN at h
  unfold Utf8.valid
  simp at h ⊢
  omega
 have b : ∀ n : Nat, n < 256 → (UInt8.ofNat n).toNat = n := by intro n hn; rw [UInt8.toNat_ofNat']; omega
 unfold utf Utf8.encode enc
 simp only [hv, if_true, Int.toNat_natCast]
 by_cases h1 : c < 128
 ·rw [if_pos (by omega), if_pos h1]
  simp [b c (by omega)]
 ·rw [if_neg (by omega), if_neg h1]
  by_cases h2 : c < 2048
  ·rw [if_pos (by omega), if_pos h2]
   simp only [List.map_cons, List.map_nil]
   rw [b _ (by omega), b _ (by omega)]
  ·rw [if_neg (by omega), if_neg h2]
   by_cases h3 : c < 65536
   ·rw [if_pos (by omega), if_pos h3]
    simp only [List.map_cons, List.map_nil]
    rw [b _ (by omega), b _ (by omega), b _ (by omega)]
   ·rw [if_neg (by omega), if_neg h3]
    simp only [List.map_cons, List.map_nil]
    rw [b _ (by omega), b _ (by omega), b _ (by omega), b _ (by omega)]
theorem fwi32 {c : Nat} (h : c ≤ 1114111) : fW .i32 (c : Int) = (c : Int) := by
 have h1 : lo .i32 ≤ (c : Int) := by show (-2147483648 : Int) ≤ _; omega
 have h2 : (c : Int) ≤ hi .i32 := by show _ ≤ (2147483647 : Int); omega
 unfold fW
 rw [if_pos (by simp [h1, h2])]
def pcB (x : Bool × Nat) : List Nat := if x.1 then 92 :: enc x.2 else enc x.2
def bodyB : List (Bool × Nat) → List Nat
 | [] => []
 | x :: l => pcB x ++ bodyB l
def PcOk (q : Nat) (x : Bool × Nat) : Prop := 32 ≤ x.2 ∧ x.2 ≠ 127 ∧ cpN x.2 = true ∧ (x.1 = false → x.2 ≠ q ∧ x.2 ≠ 92)
theorem enc_shw {c : Nat} (h1 : 32 ≤ c) (h2 : c ≠ 127) (h3 : cpN c = true) (r : List Nat) : shwN (enc c ++ r) = (enc c).length := by
 unfold shwN
 rw [enc_dec h3, if_neg (by simp only []; omega)]
 simp
theorem enc_head (c : Nat) : ∃ d w, enc c = d :: w ∧ (c < 128 ∧ d = c ∨ 128 ≤ c ∧ 192 ≤ d) := by
 unfold enc
 by_cases h1 : c < 128
 ·rw [if_pos h1]; exact ⟨_, _, rfl, .inl ⟨h1, rfl⟩⟩
 ·rw [if_neg h1]
  by_cases h2 : c < 2048
  ·rw [if_pos h2]; exact ⟨_, _, rfl, .inr ⟨by omega, by omega⟩⟩
  ·rw [if_neg h2]
   by_cases h3 : c < 65536
   ·rw [if_pos h3]; exact ⟨_, _, rfl, .inr ⟨by omega, by omega⟩⟩
   ·rw [if_neg h3]; exact ⟨_, _, rfl, .inr ⟨by omega, by omega⟩⟩
theorem body_quo {q : Nat} (hq : q = 39 ∨ q = 34) (rest : List Nat) : ∀ (l : List (Bool × Nat)) (f : Nat), (∀ x ∈ l, PcOk q x) → l.length < f → quoN q f (bodyB l ++ q :: rest) = (bodyB l).length + 1
 | [], f, _, hf => by
  obtain ⟨f, rfl⟩ : ∃ g, f = g + 1 := ⟨f - 1, by simp at hf; omega⟩
  simp only [bodyB, List.nil_append, quoN, if_true, List.length_nil]
 | x :: l, f, hx, hf => by
  simp only [List.length_cons] at hf
  obtain ⟨f, rfl⟩ : ∃ g, f = g + 1 := ⟨f - 1, by omega⟩
  have ih := body_quo hq rest l f (fun y hy => hx y (List.mem_cons_of_mem _ hy)) (by omega)
  obtain ⟨h1, h2, h3, h4⟩ := hx x List.mem_cons_self
  have sw := enc_shw h1 h2 h3 (bodyB l ++ q :: rest)
  have el := enc_len x.2
  simp only [bodyB, List.append_assoc, List.length_append]
  unfold pcB
  cases hx1 : x.1 with
  | true =>
   simp only [if_true, List.cons_append, quoN]
   rw [if_neg (by omega), sw, if_neg (by omega), List.drop_left, ih]
   unfold bmp
   rw [if_neg (by omega)]
   simp only [List.length_cons]; omega
  | false =>
   obtain ⟨n1, n2⟩ := h4 hx1
   obtain ⟨d, w, hd, hdc⟩ := enc_head x.2
   simp only [Bool.false_eq_true, if_false]
   rw [hd] at sw ⊢
   simp only [List.cons_append, quoN] at sw ⊢
   rw [hd] at el
   rw [if_neg (by omega), if_neg (by omega), sw, if_neg (by omega)]
   have : (d :: (w ++ (bodyB l ++ q :: rest))).drop (d :: w).length = bodyB l ++ q :: rest := by
    rw [← List.cons_append, List.drop_left]
   rw [this, ih]
   unfold bmp
   rw [if_neg (by omega)]; omega
theorem body_V {q : Nat} (r : List Nat) : ∀ (l : List (Bool × Nat)), (∀ x ∈ l, PcOk q x) → V (bodyB l ++ r) = V r
 | [], _ => rfl
 | x :: l, hx => by
  have ih := body_V r l (fun y hy => hx y (List.mem_cons_of_mem _ hy))
  obtain ⟨h1, h2, h3, h4⟩ := hx x List.mem_cons_self
  have ev : ∀ t, V (enc x.2 ++ t) = V t := by
   intro t
   have el := enc_len x.2
   rw [V_cons (by intro e; obtain ⟨d, w, hd, -⟩ := enc_head x.2; rw [hd] at e; cases e), enc_dec h3, if_neg (by simp only []; omega)]
   simp only [Int.toNat_natCast, List.drop_left]
  simp only [bodyB, List.append_assoc]
  unfold pcB
  cases x.1 with
  | true => simp only [if_true, List.cons_append]; rw [V_ascii _ (by decide), ev, ih]
  | false => simp only [Bool.false_eq_true, if_false]; rw [ev, ih]
theorem body_len {q : Nat} : ∀ (l : List (Bool × Nat)), (∀ x ∈ l, PcOk q x) → (bodyB l).length ≤ 5 * l.length ∧ l.length ≤ (bodyB l).length
 | [], _ => ⟨Nat.le_refl _, Nat.le_refl _⟩
 | x :: l, hx => by
  have ih := body_len l (fun y hy => hx y (List.mem_cons_of_mem _ hy))
  have el := enc_len x.2
  simp only [bodyB, List.length_append, List.length_cons]
  unfold pcB
  cases x.1 <;> simp only [Bool.false_eq_true, if_false, if_true, List.length_cons] <;> omega
theorem body_By {q : Nat} : ∀ (l : List (Bool × Nat)), (∀ x ∈ l, PcOk q x) → By (bodyB l)
 | [], _ => fun b hb => by cases hb
 | x :: l, hx => by
  have ih := body_By l (fun y hy => hx y (List.mem_cons_of_mem _ hy))
  obtain ⟨h1, h2, h3, h4⟩ := hx x List.mem_cons_self
  have eb := enc_bytes h3
  simp only [bodyB]
  refine By.app ?_ ih
  unfold pcB
  cases x.1 with
  | true =>
   intro b hb
   rcases List.mem_cons.1 hb with rfl | hb
   ·decide
   ·exact eb b hb
  | false => exact eb
def strB (q : Nat) (l : List (Bool × Nat)) : List Nat := q :: (bodyB l ++ [q])
theorem str_one {q : Nat} (hq : q = 39 ∨ q = 34) {l : List (Bool × Nat)} (hl : ∀ x ∈ l, PcOk q x) (rest : List Nat) : oneN (strB q l ++ rest) = ((strB q l).length, if q = 39 then 1 else 6) := by
 have e : strB q l ++ rest = q :: (bodyB l ++ q :: rest) := by simp [strB]
 have bl := body_len l hl
 have hqt : qtdN (q :: (bodyB l ++ q :: rest)) = (strB q l).length := by
  simp only [qtdN]
  rw [body_quo hq rest l _ hl (by simp only [List.length_append, List.length_cons]; omega)]
  unfold bmp strB
  rw [if_neg (by omega)]
  simp only [List.length_cons, List.length_append, List.length_nil]; omega
 rw [e]
 rcases hq with rfl | rfl
 ·simp only [oneN]
  rw [if_neg (by decide), if_neg (by simp), if_true, hqt]; rfl
 ·simp only [oneN]
  rw [if_neg (by decide), if_neg (by simp), if_neg (by decide), if_true, hqt]; rfl
theorem str_V {q : Nat} (hq : q = 39 ∨ q = 34) {l : List (Bool × Nat)} (hl : ∀ x ∈ l, PcOk q x) (rest : List Nat) : V (strB q l ++ rest) = V rest := by
 have e : strB q l ++ rest = q :: (bodyB l ++ q :: rest) := by simp [strB]
 have q128 : q < 128 := by omega
 rw [e, V_ascii _ q128, body_V _ l hl, V_ascii _ q128]
def cE (x : Int) : Nat := 32 + ((fW .u64 x).tmod 53248).toNat
theorem cE_at (x : Int) : fW .i64 (32 + fW .i64 ((fW .u64 x).tmod 53248)) = (cE x : Int) ∧ cE x < 53280 ∧ 32 ≤ cE x := by
 obtain ⟨i, hi, h1, -⟩ := tmod_at x 53248 (by decide) (by decide)
 have h1' : (fW .u64 x).tmod 53248 = (i : Int) := h1
 unfold cE
 rw [h1', fwI (n := (i : Int)) (by omega) (by omega), fwI (by omega) (by omega), Int.toNat_natCast]
 omega
theorem escs_l (k : Nat) (hk : 1900 ≤ k) {q kind : Nat} (hq : q = 39 ∧ kind = 1 ∨ q = 34 ∧ kind = 6) {l : List Int} (hl : l.length ≤ 30) : ∀ (f i : Nat) (P : List (Bool × Nat)), l.length < i + f → i ≤ l.length → (∀ x ∈ P, PcOk q x) → P.length ≤ i →
 g9_l10 (k + 60) l ([q], (kind : Int)) f (q :: bodyB P) (i : Int) = some true
 | 0, i, P, h, h2, hP, hPl => by omega
 | f + 1, i, P, h, h2, hP, hPl => by
  have hq' : q = 39 ∨ q = 34 := by omega
  have bl := body_len P hP
  rw [g9_l10_s]
  rcases Nat.lt_or_ge i l.length with hi | hi
  ·obtain ⟨x, r, hx, -, -, -⟩ := dconsL (s := l) (i := i) hi
   obtain ⟨c1, c2, c3⟩ := cE_at x
   have hcp : cpN (cE x) = true := by
    unfold cpN
    rw [decide_eq_true (by omega : cE x ≤ 1114111), decide_eq_false (by omega : ¬ 55296 ≤ cE x)]; rfl
   have n0 : nthS [q] 0 = some (q : Int) := rfl
   refine iT (dT (by omega)) ?_
   refine bS (by (try simp (disch := omega) only [fwI]); exact nthL_at hx) ?_
   simp only [c1]
   clear c1
   by_cases h127 : cE x = 127
   ·have ih := escs_l k hk hq hl f (i + 1) P (by omega) (by omega) hP (by omega)
    refine (jS (v := (q :: bodyB P, (i : Int))) (fun j => ?_)).trans ?_
    ·exact iT (dT (by omega)) rfl
    ·show g9_l10 _ _ _ f _ (fW .i64 ((i : Int) + 1)) = _
     rw [fw_s (by omega)]
     exact ih
   ·have el := enc_len (cE x)
    have eq : PcOk q (decide (cE x = q) || decide (cE x = 92) || decide (i % 4 = 3), cE x) := by
     refine ⟨c3, h127, hcp, fun hf => ?_⟩
     simp only [Bool.or_eq_false_iff, decide_eq_false_iff_not] at hf
     exact hf.1
    have hP' : ∀ y ∈ P ++ [(decide (cE x = q) || decide (cE x = 92) || decide (i % 4 = 3), cE x)], PcOk q y := by
     intro y hy
     rcases List.mem_append.1 hy with hy | hy
     ·exact hP y hy
     ·rw [List.mem_singleton.1 hy]; exact eq
    have ih := escs_l k hk hq hl f (i + 1) (P ++ [(decide (cE x = q) || decide (cE x = 92) || decide (i % 4 = 3), cE x)]) (by omega) (by omega) hP' (by simp only [List.length_append, List.length_cons, List.length_nil]; omega)
    have eb : ∀ (A B : List (Bool × Nat)), bodyB (A ++ B) = bodyB A ++ bodyB B := by
     intro A B
     induction A with
     | nil => rfl
     | cons a A ihA => simp only [List.cons_append, bodyB, ihA, List.append_assoc]
    have ebb : q :: bodyB (P ++ [(decide (cE x = q) || decide (cE x = 92) || decide (i % 4 = 3), cE x)]) = (if (decide (cE x = q) || decide (cE x = 92) || decide (i % 4 = 3)) = true then q :: bodyB P ++ [92] else q :: bodyB P) ++ enc (cE x) := by
     rw [eb]
     simp only [bodyB, List.append_nil, pcB]
     split <;> simp
    rw [ebb] at ih
    have a3 : andI .i64 (i : Int) 3 = ((i % 4 : Nat) : Int) := by
     have := andI64 (i : Int) 2 (by decide)
     exact this.trans (by omega)
    have c32 : fW .i64 (q : Int) = (q : Int) := by rw [fwI (by omega) (by omega)]
    rw [fwi32 (by omega), utf_of hcp]
    refine (jS (v := ((if (decide (cE x = q) || decide (cE x = 92) || decide (i % 4 = 3)) = true then q :: bodyB P ++ [92] else q :: bodyB P) ++ enc (cE x), (i : Int))) (fun j => ?_)).trans ?_
    ·refine iF (dF (by omega)) ?_
     refine bS (by (try simp (disch := omega) only [fwI]); exact n0) ?_
     rw [c32, a3]
     clear c32 a3
     have dc : decide (((i % 4 : Nat) : Int) = 3) = decide (i % 4 = 3) := by rw [Bool.eq_iff_iff]; simp; omega
     refine (jS (v := (decide (cE x = q) || decide (cE x = 92) || decide (i % 4 = 3), q :: bodyB P, (i : Int))) (fun j => ?_)).trans ?_
     ·by_cases hc1 : cE x = q
      ·rw [decide_eq_true hc1]
       exact iT (dT (by omega)) rfl
      ·rw [decide_eq_false hc1]
       refine iF (dF (by omega)) ?_
       by_cases hc2 : cE x = 92
       ·rw [decide_eq_true hc2]
        exact iT (dT (by omega)) rfl
       ·rw [decide_eq_false hc2, dc]
        exact iF (dF (by omega)) rfl
     ·refine (jS (v := (if (decide (cE x = q) || decide (cE x = 92) || decide (i % 4 = 3)) = true then q :: bodyB P ++ [92] else q :: bodyB P, (i : Int))) (fun j => ?_)).trans ?_
      ·cases (decide (cE x = q) || decide (cE x = 92) || decide (i % 4 = 3)) with
       | true =>
        refine iT rfl ?_
        have c1 : catS (q :: bodyB P) [92] = some (q :: bodyB P ++ [92]) := by unfold catS; rw [if_pos (by simp only [List.length_cons, List.length_nil]; omega)]
        refine bS (by (try simp (disch := omega) only [fwI]); exact c1) ?_
        rfl
       | false => rfl
      ·have c2 : catS (if (decide (cE x = q) || decide (cE x = 92) || decide (i % 4 = 3)) = true then q :: bodyB P ++ [92] else q :: bodyB P) (enc (cE x)) = some ((if (decide (cE x = q) || decide (cE x = 92) || decide (i % 4 = 3)) = true then q :: bodyB P ++ [92] else q :: bodyB P) ++ enc (cE x)) := by
        unfold catS
        rw [if_pos]
        split <;> simp only [List.length_cons, List.length_append, List.length_nil] <;> omega
       refine bS (by (try simp (disch := omega) only [fwI]); exact c2) ?_
       rfl
    ·show g9_l10 _ _ _ f _ (fW .i64 ((i : Int) + 1)) = _
     rw [fw_s (by omega)]
     exact ih
  ·refine iF (dF (by omega)) ?_
   have es : q :: bodyB P ++ [q] = strB q P := rfl
   have sl : (strB q P).length = (bodyB P).length + 2 := by simp [strB]
   have c1 : catS (q :: bodyB P) [q] = some (strB q P) := by unfold catS; rw [if_pos (by simp only [List.length_cons, List.length_nil]; omega), es]
   have c2 : catS (strB q P) [32] = some (strB q P ++ [32]) := by unfold catS; rw [if_pos (by simp only [List.length_cons, List.length_nil]; omega)]
   have c3 : catS (strB q P ++ [32]) (strB q P) = some (strB q P ++ 32 :: strB q P) := by
    unfold catS; rw [if_pos (by simp only [List.length_append, List.length_cons, List.length_nil]; omega), List.append_assoc]; rfl
   have sb : By (strB q P) := by
    intro b hb
    rcases List.mem_cons.1 hb with rfl | hb
    ·omega
    ·exact By.app (body_By P hP) (fun b hb => by rw [List.mem_singleton.1 hb]; omega) b hb
   have sb2 : By (strB q P ++ 32 :: strB q P) := sb.app (fun b hb => by
    rcases List.mem_cons.1 hb with rfl | hb
    ·decide
    ·exact sb b hb)
   have qb : blkN q = false := by rcases hq' with rfl | rfl <;> rfl
   have o1 := str_one hq' hP []
   rw [List.append_nil] at o1
   have o2 := str_one hq' hP (32 :: strB q P)
   have hkind : (if q = 39 then 1 else 6) = kind := by rcases hq with ⟨rfl, rfl⟩ | ⟨rfl, rfl⟩ <;> rfl
   rw [hkind] at o1 o2
   have t1 : Toks (strB q P) 0 [(kind, 0, (strB q P).length)] := by
    simp only [Toks, List.drop_zero, Nat.zero_add]
    refine ⟨?_, by omega, o1, by omega, ?_⟩
    ·rw [skip_step (s := strB q P) rfl qb]
    ·omega
   have l2 : (strB q P ++ 32 :: strB q P).length = 2 * (strB q P).length + 1 := by simp only [List.length_append, List.length_cons]; omega
   have d1 : (strB q P ++ 32 :: strB q P).drop (strB q P).length = 32 :: strB q P := List.drop_left
   have d2 : (strB q P ++ 32 :: strB q P).drop ((strB q P).length + 1) = strB q P := drop_step d1
   have t2 : Toks (strB q P ++ 32 :: strB q P) 0 [(kind, 0, (strB q P).length), (kind, (strB q P).length + 1, (strB q P).length)] := by
    simp only [Toks, List.drop_zero, Nat.zero_add]
    refine ⟨?_, by omega, o2, by omega, ?_, by omega, ?_, by omega, by omega⟩
    ·rw [skip_step (s := strB q P ++ 32 :: strB q P) rfl qb]
    ·rw [d1]
     have : skipN (32 :: strB q P) = skipN (strB q P) + 1 := rfl
     rw [this, skip_step (s := strB q P) rfl qb]
    ·rw [d2]; exact o1
   have v1 : V (strB q P) = true := by
    have := str_V hq' hP []
    rw [List.append_nil] at this
    rw [this]; rfl
   have v2 : V (strB q P ++ 32 :: strB q P) = true := by
    rw [str_V hq' hP, V_ascii _ (by decide)]; exact v1
   refine bS (by (try simp (disch := omega) only [fwI]); exact c1) ?_
   refine bS (by (try simp (disch := omega) only [fwI]); exact c2) ?_
   refine bS (by (try simp (disch := omega) only [fwI]); exact c3) ?_
   refine bS (by (try simp (disch := omega) only [fwI]); exact scan_at (k := k + 60) (s := strB q P ++ 32 :: strB q P) (by omega) sb2 (by unfold Sz; omega)) ?_
   refine bS (by (try simp (disch := omega) only [fwI]); exact rscan_at (k := k + 60) (s := strB q P) (by omega) sb (by unfold Sz; omega)) ?_
   refine bS (by (try simp (disch := omega) only [fwI]); exact told6 k) ?_
   rw [scan_some (by omega) v1 t1, scan_some (by omega) v2 t2]
   have m1 : (mkTok (strB q P ++ 32 :: strB q P) (kind, 0, (strB q P).length)).f1 = strB q P := by
    show ((strB q P ++ 32 :: strB q P).drop 0).take (strB q P).length = _
    rw [List.drop_zero, List.take_left]
   have m2 : (mkTok (strB q P ++ 32 :: strB q P) (kind, (strB q P).length + 1, (strB q P).length)).f1 = strB q P := by
    show ((strB q P ++ 32 :: strB q P).drop ((strB q P).length + 1)).take (strB q P).length = _
    rw [d2, List.take_length]
   refine iT rfl ?_
   refine iT rfl ?_
   refine iT rfl ?_
   refine iT rfl ?_
   refine iT rfl ?_
   refine bS (a := mkTok (strB q P ++ 32 :: strB q P) (kind, 0, (strB q P).length)) rfl ?_
   refine iT (dT rfl) ?_
   refine bS (a := mkTok (strB q P ++ 32 :: strB q P) (kind, 0, (strB q P).length)) rfl ?_
   rw [m1, eqL_same]
   refine iT rfl ?_
   refine bS (a := mkTok (strB q P ++ 32 :: strB q P) (kind, (strB q P).length + 1, (strB q P).length)) rfl ?_
   rw [m2, eqL_same]
theorem scanEscapes_true (l : List Int) (b : Bool) (_ : ∀ n ∈ l, -9223372036854775808 ≤ n ∧ n ≤ 9223372036854775807) (_ : l.length ≤ 140737488351232) : ∃ k, g9 k l b = some true := by
 refine ⟨1940 + 60, ?_⟩
 unfold g9
 by_cases h3 : 30 < l.length
 ·refine iT (dT (by omega)) ?_
  refine bS (by (try simp (disch := omega) only [fwI]); exact told6 1940) ?_
  rfl
 ·refine iF (dF (by omega)) ?_
  cases b with
  | true =>
   refine (jS (v := ([34], ((6 : Nat) : Int))) (fun j => iT rfl rfl)).trans ?_
   exact escs_l 1940 (by omega) (.inr ⟨rfl, rfl⟩) (by omega) (1940 + 60) 0 [] (by omega) (by omega) (fun x hx => by cases hx) (Nat.le_refl _)
  | false =>
   refine (jS (v := ([39], ((1 : Nat) : Int))) (fun j => iF rfl rfl)).trans ?_
   exact escs_l 1940 (by omega) (.inl ⟨rfl, rfl⟩) (by omega) (1940 + 60) 0 [] (by omega) (by omega) (fun x hx => by cases hx) (Nat.le_refl _)
end Go.Proofs.Ytokcjgjgojlhbaa.Am
set_option linter.unusedVariables false
namespace Go.Proofs.Ytokcjgjgojlhbaa.Am
open Go Go.ChangeShapes Go.WideShapes
def mpOf (fz : List (Nat × List AV)) : Mp := ⟨fun _ _ => none, fun i => fz[i]?⟩
theorem law_walk_fz {P : Program} {n : Nat} {xs : List AV} {args : Array Value} (h : PureOk P n xs (.bool true)) (w : World) (fz : List (Nat × List AV)) (hargs : VRs (mpOf fz) xs args.toList)
 (hfz : ∀ p ∈ fz, ∃ cs ty fr, w.heap[p.1]? = some (.cells cs ty fr) ∧ p.2.length ≤ cs.size ∧ VRs (mpOf fz) p.2 (cs.toList.take p.2.length)) :
 Calls P n args w fun e W' => e = .returned (.bool true) ∧ RowKit.Below w.heap.size w W' := by
 refine Calls.mono (h.1 (mpOf fz) w args (fun _ _ => rfl) hargs ?_) ?_
 ·refine ⟨?_, ?_, ?_, fun _ _ => rfl, ?_, ?_, ?_, ⟨fz.length, fun i hi => List.getElem?_eq_none hi⟩, Nat.le_refl _, by show 0 ≤ roots; unfold roots; omega⟩
  ·intro r b v B N hb hm; cases hm
  ·intro r v B N hm; cases hm
  ·intro r v B N r' v' N' hm; cases hm
  ·intro r v B N hm; cases hm
  ·intro i B cells hi
   exact hfz (B, cells) (List.mem_of_getElem? hi)
  ·intro i B cells r v N b _ hm; cases hm
 ·rintro e w' ⟨m', c, rfl, q1, q2, q3⟩
  simp only [VR] at q3
  exact ⟨by rw [q3], q2.below (Nat.le_refl _)⟩
theorem VRs_all {m : Mp} : ∀ {xs : List AV} {cs : List Value}, xs.length = cs.length → (∀ (i : Nat) x c, xs[i]? = some x → cs[i]? = some c → VR m x c) → VRs m xs cs
 | [], [], _, _ => by simp only [VRs]
 | [], _ :: _, h, _ => by cases h
 | _ :: _, [], h, _ => by cases h
 | x :: xs, c :: cs, h, k => by
  simp only [VRs]
  exact ⟨c, cs, rfl, k 0 x c rfl rfl, VRs_all (by simpa using h) (fun i x' c' hx hc => k (i + 1) x' c' (by simpa using hx) (by simpa using hc))⟩
def IsRow (k : IntKind) (w : World) (a : Option Addr) (len cap : Nat) (zs : List Int) : Prop :=
 (a = none ∧ len = 0 ∧ cap = 0 ∧ zs = []) ∨
 ∃ x, a = some x ∧ len ≤ cap ∧ zs.length = len ∧ (∀ i, i < zs.length → w.cell? (x.add i) = some (.int k (zs.getD i 0))) ∧ ∀ n ∈ zs, (Lit.int k n).wf = true
theorem cell_add {w : World} {x : Addr} {i : Nat} {v : Value} (h : w.cell? (x.add i) = some v) : ∃ cs ty fr, w.heap[x.block]? = some (.cells cs ty fr) ∧ cs[x.off + i]? = some v ∧ (i = 0 → x.spot = none) := by
 have hb : (x.add i).block = x.block := by unfold Addr.add; split <;> rfl
 have ho : (x.add i).off = x.off + i := by unfold Addr.add; split <;> simp_all
 have hs : i = 0 → (x.add i).spot = x.spot := by intro e; subst e; rfl
 unfold World.cell? at h
 rw [hb, ho] at h
 cases hw : w.heap[x.block]? with
 | none => rw [hw] at h; cases h
 | some o =>
  rw [hw] at h
  cases o with
  | cells cs ty fr =>
   simp only [] at h
   cases hsp : (x.add i).spot with
   | none => rw [hsp] at h; exact ⟨cs, ty, fr, rfl, by simpa using h, fun e => by rw [← hs e, hsp]⟩
   | some q => rw [hsp] at h; simp at h
  | _ => simp at h
def frozOf (k : IntKind) (a : Option Addr) (zs : List Int) : Nat × List AV := match a with
 | none => (0, [])
 | some x => (x.block, List.replicate x.off .top ++ zs.map (AV.int k))
theorem row_froz {k : IntKind} {w : World} {a : Option Addr} {len cap : Nat} {zs : List Int} (h : IsRow k w a len cap zs) (hne : zs ≠ []) (fz : List (Nat × List AV)) :
 ∃ cs ty fr, w.heap[(frozOf k a zs).1]? = some (.cells cs ty fr) ∧ (frozOf k a zs).2.length ≤ cs.size ∧ VRs (mpOf fz) (frozOf k a zs).2 (cs.toList.take (frozOf k a zs).2.length) := by
 rcases h with ⟨_, _, _, rfl⟩ | ⟨x, rfl, hl, hz, hc, hw⟩
 ·exact absurd rfl hne
 ·have hpos : 0 < zs.length := List.length_pos_iff.2 hne
  obtain ⟨cs, ty, fr, hb, h0, -⟩ := cell_add (hc (zs.length - 1) (by omega))
  have hsz : x.off + (zs.length - 1) < cs.size := by
   rcases Nat.lt_or_ge (x.off + (zs.length - 1)) cs.size with h | h
   ·exact h
   ·rw [Array.getElem?_eq_none h] at h0; cases h0
  refine ⟨cs, ty, fr, hb, by simp only [frozOf, List.length_append, List.length_replicate, List.length_map]; omega, ?_⟩
  refine VRs_all (by simp only [frozOf, List.length_append, List.length_replicate, List.length_map, List.length_take, Array.length_toList]; omega) ?_
  intro i v c hv hcv
  simp only [frozOf] at hv hcv
  by_cases hi : i < x.off
  ·rw [List.getElem?_append_left (by simpa using hi)] at hv
   rw [List.getElem?_replicate, if_pos hi] at hv
   cases hv
   simp only [VR]
  ·rw [List.getElem?_append_right (by simpa using Nat.le_of_not_lt hi), List.length_replicate, List.getElem?_map] at hv
   cases hz' : zs[i - x.off]? with
   | none => rw [hz'] at hv; cases hv
   | some n =>
    rw [hz'] at hv
    cases hv
    have hlt : i - x.off < zs.length := (List.getElem?_eq_some_iff.1 hz').1
    obtain ⟨cs', ty', fr', hb', h1, -⟩ := cell_add (hc (i - x.off) hlt)
    rw [hb] at hb'
    cases hb'
    rw [show x.off + (i - x.off) = i from by omega] at h1
    rw [List.getElem?_take_of_lt (by simp only [List.length_append, List.length_replicate, List.length_map]; omega), Array.getElem?_toList, h1] at hcv
    cases hcv
    simp only [VR]
    rw [List.getD_eq_getElem?_getD, hz']
    rfl
theorem row_VR {k : IntKind} {w : World} {a : Option Addr} {len cap : Nat} {zs : List Int} (h : IsRow k w a len cap zs) (fz : List (Nat × List AV)) (id : Nat) (hid : zs ≠ [] → fz[id]? = some (frozOf k a zs)) : VR (mpOf fz) (.vec zs.length 1 (zs.map (AV.int k))) (.slice a len cap) := by
 simp only [VR]
 refine ⟨by simp, a, cap, ?_, ?_, ?_, ?_⟩
 ·rcases h with ⟨_, rfl, _, rfl⟩ | ⟨x, _, _, hz, _, _⟩
  ·rfl
  ·rw [hz]
 ·rcases h with ⟨_, rfl, rfl, rfl⟩ | ⟨x, _, hl, hz, _, _⟩
  ·exact Nat.le_refl _
  ·omega
 ·intro ha
  rcases h with ⟨_, rfl, rfl, rfl⟩ | ⟨x, hx, _, _, _, _⟩
  ·exact ⟨rfl, rfl⟩
  ·rw [hx] at ha; cases ha
 ·intro hpos
  have hne : zs ≠ [] := List.length_pos_iff.1 hpos
  have hf := hid hne
  rcases h with ⟨_, _, _, rfl⟩ | ⟨x, rfl, hl, hz, hc, hw⟩
  ·exact absurd rfl hne
  ·obtain ⟨cs, ty, fr, hb, h0, hsp⟩ := cell_add (hc 0 hpos)
   have hspot := hsp rfl
   refine ⟨id, x.block, x.off, _, hf, ?_, ?_, ?_⟩
   ·cases x; simp only at hspot; rw [hspot]
   ·simp only [Nat.mul_one]
    rw [List.drop_append_of_le_length (by simp), List.drop_of_length_le (by simp), List.nil_append]
    exact List.take_of_length_le (by simp)
   ·simp
def fzOf (k : IntKind) (a : Option Addr) (zs : List Int) : List (Nat × List AV) := if zs = [] then [] else [frozOf k a zs]
theorem fzOf_mem {k : IntKind} {a : Option Addr} {zs : List Int} {p : Nat × List AV} (h : p ∈ fzOf k a zs) : zs ≠ [] ∧ p = frozOf k a zs := by
 unfold fzOf at h
 split at h
 ·cases h
 ·exact ⟨by assumption, List.mem_singleton.1 h⟩
theorem fzOf_get {k : IntKind} {a : Option Addr} {zs : List Int} (A B : List (Nat × List AV)) (h : zs ≠ []) : (A ++ (fzOf k a zs ++ B))[A.length]? = some (frozOf k a zs) := by
 unfold fzOf
 rw [if_neg h]
 simp
theorem flat1 (f : Int → AV) : ∀ l : List Int, l.flatMap (fun x => [f x]) = l.map f
 | [] => rfl
 | x :: l => by rw [List.flatMap_cons, flat1 f l]; rfl
theorem row_len {k : IntKind} {w : World} {a : Option Addr} {len cap : Nat} {zs : List Int} (h : IsRow k w a len cap zs) : zs.length = len := by
 rcases h with ⟨_, rfl, _, rfl⟩ | ⟨x, _, _, hz, _, _⟩
 ·rfl
 ·exact hz
theorem row_wf {k : IntKind} {w : World} {a : Option Addr} {len cap : Nat} {zs : List Int} (h : IsRow k w a len cap zs) : ∀ n ∈ zs, (Lit.int k n).wf = true := by
 rcases h with ⟨_, _, _, rfl⟩ | ⟨x, _, _, _, _, hw⟩
 ·intro n hn; cases hn
 ·exact hw
section
variable {H : Type} {enc : TypeId × Value → H} {P : Program} {w : World} {base : Nat} {held : Bool}
theorem row_open {t e : TypeId} {k : IntKind} {a : Option Addr} {len cap : Nat} {d : DataW H} {ps : List MemPlace} (ht : P.underlying t = some (.slice e)) (he : P.underlying e = some (.int k)) (hc : P.cellsOf e = 1)
 (h : DataW.Trod enc P w base (fun _ => true) held t (.slice a len cap) d ps) : ∃ zs, IsRow k w a len cap zs := by
 obtain ⟨fuel, hf⟩ := h
 rcases open_ints ht he hc hf with ⟨hcs, _⟩ | ⟨x, l, c, zs, hcs, _, hl, hm, hz, _, hcell, hwz⟩
 ·simp [Value.cells] at hcs
  obtain ⟨rfl, rfl, rfl⟩ := hcs
  exact ⟨[], .inl ⟨rfl, rfl, rfl, rfl⟩⟩
 ·simp [Value.cells] at hcs
  obtain ⟨rfl, rfl, rfl⟩ := hcs
  have hz' : zs.length = cap := by simpa using hz
  refine ⟨zs.take len, .inr ⟨_, rfl, hl, by rw [List.length_take]; omega, ?_, fun n hn => hwz n (List.mem_of_mem_take hn)⟩⟩
  intro i hi
  rw [List.length_take] at hi
  rw [hcell i (by omega), List.getD_eq_getElem?_getD, List.getD_eq_getElem?_getD, List.getElem?_take_of_lt (by omega)]
theorem row_sized {t e : TypeId} {k : IntKind} {a : Option Addr} {len cap : Nat} {d : DataW H} {ps : List MemPlace} {ts : List TypeId} {ds : List (DataW H)} {j : Nat}
 (hsz : (DataW.weightsEach P ts ds).all (· ≤ reachBytes) = true) (ht : ts[j]? = some t) (hd : ds[j]? = some d) (hu : P.underlying t = some (.slice e)) (he : P.underlying e = some (.int k)) (hc : P.cellsOf e = 1) {B : Nat} (hB : P.bytesOf e = B)
 (h : DataW.Trod enc P w base (fun _ => true) held t (.slice a len cap) d ps) : len * B ≤ 140737488351232 := by
 obtain ⟨fuel, hf⟩ := h
 rcases open_ints hu he hc hf with ⟨hcs, _⟩ | ⟨x, l, c, zs, hcs, _, hl, _, hz, hx, _, _⟩
 ·simp [Value.cells] at hcs
  obtain ⟨rfl, rfl, rfl⟩ := hcs
  omega
 ·simp [Value.cells] at hcs
  obtain ⟨rfl, rfl, rfl⟩ := hcs
  obtain ⟨hx, _⟩ := Prod.mk.inj hx
  subst hx
  have z := sized_slice hsz ht hd hu
  rw [hB] at z
  have hz' : zs.length = cap := by simpa using hz
  have e1 : (lits (H := H) k (zs.take len)).length + (lits (H := H) k (zs.drop len)).length = zs.length := by
   simp only [lits, List.length_map, List.length_take, List.length_drop]; omega
  rw [e1] at z
  exact Nat.le_trans (Nat.mul_le_mul_right _ (by omega)) z
end
end Go.Proofs.Ytokcjgjgojlhbaa.Am
set_option linter.unusedVariables false
set_option linter.unusedSimpArgs false
namespace Go.Proofs.Ytokcjgjgojlhbaa.Am
open Go
theorem scanEscapes_walk (v0 : Option Addr) (len0 cap0 : Nat) (z0 : List Int) (a1 : Bool) (W : World) (w0 : IsRow .i64 W v0 len0 cap0 z0) (y0 : len0 * 8 ≤ 140737488351232) : Calls Try.prog 9 #[.slice v0 len0 cap0, .bool a1] W fun e W' => e = .returned (.bool true) ∧ RowKit.Below W.heap.size W W' := by
 obtain ⟨k, h⟩ := scanEscapes_true z0 a1 (by intro n hn; have := row_wf w0 n hn; simpa [Lit.wf, IntKind.min, IntKind.max, IntKind.signed, IntKind.bits] using this) (by rw [row_len w0]; omega)
 refine law_walk_fz (g9_ok k z0 a1 true h) W (fzOf .i64 v0 z0 ++ []) (by simp only [VRs]; exact ⟨_, _, rfl, (by have e := row_VR w0 (fzOf .i64 v0 z0 ++ []) (([] : List (Nat × List AV))).length (fun h => fzOf_get ([] : List (Nat × List AV)) _ h); rw [← flat1 (AV.int .i64)] at e; exact e), ⟨_, _, rfl, (by simp only [VR]), rfl⟩⟩) ?_
 intro p hp
 rcases List.mem_append.1 hp with hp | hp
 ·obtain ⟨hne, rfl⟩ := fzOf_mem hp
  exact row_froz w0 hne _
 ·cases hp
end Go.Proofs.Ytokcjgjgojlhbaa.Am
namespace Go.Proofs.Ytokcjgjgojlhbaa.scanEscapes
open Go.ChangeShapes Go.WideShapes Go.ChangeAt Go.RowKit
open Go.ChangeMaps (open_string shut_string)
set_option linter.unusedVariables false
theorem laidOut : laidOutB Try.prog = true := by kernel_rfl
theorem own : ownKnob Try.prog.godebug = none := by kernel_rfl
set_option maxRecDepth 100000 in
theorem lifted (os : Os) (started : os.Started) (H : Type) (enc : TypeId × Value → H) :
 ReturnsInHanded {} Try.checked os 9 .any (Rows.scanEscapesSpec.pre6 enc Try.prog Try.f9 Rows.scanEscapesRow.domain false) (Rows.scanEscapesSpec.post enc Try.prog Try.f9 false true false false) := by
 refine returnsInHanded_of_change_sized (C := Try.checked) own started (by kernel_rfl) Try.func9
  (ChangeSpec.witness6 (enc := enc) (C := Try.checked) false ⟨#[], #[.slice none 0 0, .bool false], []⟩ 8 (by kernel_rfl) (by kernel_rfl) (by kernel_rfl) (by kernel_rfl)) ?_
 intro W base args ds gs before hval0 hW hcnd hsz0 _
 have hsz : (DataW.weightsEach Try.prog (Try.f9.params.toList ++ Rows.scanEscapesSpec.plain.varTypes Try.prog) (ds ++ gs)).all (· ≤ reachBytes) = true := hsz0
 have hval : ∀ (j : Nat) t v, Try.f9.params[j]? = some t → args[j]? = some v → Value.okWide Try.prog W .any base t v := hval0
 have hW' := hW
 obtain ⟨p, q, hA0, hV, rfl, hfz, hnd⟩ := hW
 have hA : DataW.TrodAll enc Try.prog W 0 (fun _ => true) true Try.f9.params.toList args.toList ds p := hA0
 rw [Try.params9] at hA hval hsz
 obtain ⟨v0, vs0, d0, ds0, p0, q0, hargs, rfl, rfl, h0, r0⟩ := trodAll_cons hA
 obtain ⟨v1, vs1, d1, ds1, p1, q1, rfl, rfl, rfl, h1, r1⟩ := trodAll_cons r0
 obtain ⟨rfl, rfl, rfl⟩ := trodAll_nil r1
 obtain rfl : args = #[v0, v1] := by cases args; simp_all
 obtain ⟨rfl, rfl⟩ := trodVars_none hV
 obtain ⟨v0a, len0, cap0, rfl⟩ := okWide_slice Try.underlying36 (hval 0 36 v0 rfl rfl)
 have k0 := h0
 have lt0 : ∀ x ∈ p0, x.block < W.heap.size := by obtain ⟨m, hm⟩ := k0; exact DataW.trod_lt m _ _ _ hm
 obtain ⟨z0, w0⟩ := Am.row_open Try.underlying36 Try.underlying3 (by kernel_rfl) h0
 have y0 : len0 * 8 ≤ 140737488351232 := Am.row_sized hsz (j := 0) (t := 36) rfl rfl Try.underlying36 Try.underlying3 (by kernel_rfl) (by kernel_rfl) h0
 obtain ⟨a1, rfl, rfl, rfl⟩ := open_bool Try.underlying4 (hval 1 4 v1 rfl rfl) h1
 clear hA0 hval0 hsz0 hsz
 refine (Am.scanEscapes_walk v0a len0 cap0 z0 a1 W w0 y0).mono fun e W' ⟨he, bel⟩ => ?_
 subst he
 exact ⟨_, rfl, _, _, _, [], _, [], hW', trodAll_mk1 (shut_bool Try.underlying4 _), (trodAll_cons_mk (Below.trod laidOut (by kernel_rfl) (of_decide_eq_true (by kernel_rfl)) k0 bel lt0) (trodAll_cons_mk (shut_bool Try.underlying4 _) trodAll_mk0)), rfl, bel.frame _, fun h => by cases h⟩
theorem over : Rows.scanEscapesRow.holds Try.pinned (OpenSpec.ofChange Rows.scanEscapesSpec) :=
 OpenClaim.holds_of_wide 9 Try.f9 rfl rfl rfl rfl rfl rfl rfl ⟨rfl, rfl, rfl, rfl, rfl⟩ rfl rfl rfl rfl rfl (by kernel_rfl) Try.func9 (by kernel_rfl)
  (of_decide_eq_true (by kernel_rfl)) (by unfold Func.isWrapper; first | (rw [if_pos (by decide +kernel)]; kernel_rfl) | (rw [if_neg (by decide +kernel)]; exact ⟨rfl, rfl⟩))
  (fun os started H enc _ => lifted os started H enc)
theorem proved : Rows.ScanEscapesSaid := over
#print axioms proved
end Go.Proofs.Ytokcjgjgojlhbaa.scanEscapes
namespace Go.Proofs.Ytokcjgjgojlhbaa
theorem scanEscapes_holds : Rows.ScanEscapesSaid := scanEscapes.proved
end Go.Proofs.Ytokcjgjgojlhbaa
