/- LawScanEscapes, part 4: whatever the input, the law comes out true: our texts, joined by a tool, without what the claim does not name. -/
import Derived.Test.YtokcjgjgojlhbaaPkScanEscapes3
set_option maxRecDepth 100000
set_option linter.unusedVariables false
namespace Go.Proofs.Ytokcjgjgojlhbaa.Am
noncomputable section
open Go
theorem g61_l6_ok (k : Nat)  (a0 : (List Nat)) (a1 : Int) (z5 : Int × Int × Int)  : ∀ (n : Nat) (y6_0 : Int) (y6_1 : Int), Ok X61 g61p6 [(0, .str a0), (1, .int .i64 a1), (6, .int .i64 z5.1), (7, .int .i64 z5.2.1), (8, .int .i64 z5.2.2), (9, .int .i64 y6_0), (10, .int .i64 y6_1)] (mkH []) (g61_l6 k a0 a1 z5 n y6_0 y6_1)
 | 0, _, _ => ok_none
 | n + 1, y6_0, y6_1 => by
  have ih := g61_l6_ok k a0 a1 z5 n
  rw [g61_l6_s]
  refine ok_ent (p' := nav [0] g61p6) (by kernel_rfl) ?_
  let E3 : Env := [(29, .bool (decide (y6_1 < z5.2.1))), (28, .bool (decide (y6_1 < z5.2.1))), (27, .int .i64 z5.2.1), (26, .int .i64 y6_1), (0, .str a0), (1, .int .i64 a1), (6, .int .i64 z5.1), (7, .int .i64 z5.2.1), (8, .int .i64 z5.2.2), (9, .int .i64 y6_0), (10, .int .i64 y6_1)]
  refine oR 7 (p' := (atN 4 (ctl1 g61p7))) (eE := E3) (H' := (mkH [])) (by kernel_rfl) ?_
  refine oJ (f := fun (z7 : Bool × Int × Int) => if z7.1 then ((nthS a0 (fW .i64 (z5.1 + z7.2.2))).bind fun x2_6 => (g63 k x2_6).bind fun x2_7 => (g61_l6 k a0 a1 z5 n) (orI .i64 (shlC .i64 z7.2.1 4) x2_7) (fW .i64 (z7.2.2 + 1))) else (jn (fun (z8 : Int × Int × Bool) => if z8.2.2 then (some (((-1) : Int), (0 : Int))) else (some (z8.1, fW .i64 (fW .i64 (z8.2.1 + z5.2.2) - a1)))) (fun j8 => if (decide (z5.2.2 = 0)) then (if (decide (z7.2.2 < 2)) then (j8 (z7.2.1, fW .i64 (z5.1 + z7.2.2), true)) else (if (decide (z7.2.2 < 1)) then (j8 (z7.2.1, fW .i64 (z5.1 + z7.2.2), true)) else (if (decide (z5.2.2 = 1)) then (if (decide ((a0.length : Int) ≤ fW .i64 (z5.1 + z7.2.2))) then (j8 (z7.2.1, fW .i64 (z5.1 + z7.2.2), true)) else ((nthS a0 (fW .i64 (z5.1 + z7.2.2))).bind fun x3_21 => if (!decide (x3_21 = 125)) then (j8 (z7.2.1, fW .i64 (z5.1 + z7.2.2), true)) else ((g67 k z7.2.1).bind fun x3_28 => j8 (z7.2.1, fW .i64 (z5.1 + z7.2.2), eqL x3_28 [])))) else ((g67 k z7.2.1).bind fun x3_28 => j8 (z7.2.1, fW .i64 (z5.1 + z7.2.2), eqL x3_28 []))))) else (if (decide (z7.2.2 < 1)) then (j8 (z7.2.1, fW .i64 (z5.1 + z7.2.2), true)) else (if (decide (z5.2.2 = 1)) then (if (decide ((a0.length : Int) ≤ fW .i64 (z5.1 + z7.2.2))) then (j8 (z7.2.1, fW .i64 (z5.1 + z7.2.2), true)) else ((nthS a0 (fW .i64 (z5.1 + z7.2.2))).bind fun x3_21 => if (!decide (x3_21 = 125)) then (j8 (z7.2.1, fW .i64 (z5.1 + z7.2.2), true)) else ((g67 k z7.2.1).bind fun x3_28 => j8 (z7.2.1, fW .i64 (z5.1 + z7.2.2), eqL x3_28 [])))) else ((g67 k z7.2.1).bind fun x3_28 => j8 (z7.2.1, fW .i64 (z5.1 + z7.2.2), eqL x3_28 []))))))) g61p8 (fun (z7 : Bool × Int × Int) => [(0, .str a0), (1, .int .i64 a1), (6, .int .i64 z5.1), (7, .int .i64 z5.2.1), (8, .int .i64 z5.2.2), (9, .int .i64 z7.2.1), (10, .int .i64 z7.2.2), (45, .bool z7.1)]) (fun (z7 : Bool × Int × Int) => (mkH [])) (fun z7 => ?_) (fun j7 hj7 => ?_)
  ·refine oS 45 (b := z7.1) (by kernel_rfl) (fun hb => ?_) (fun hb => ?_)
   ·let E4 : Env := [(51, .int .i64 (fW .i64 (z5.1 + z7.2.2))), (50, .int .i64 z7.2.2), (49, .int .i64 z5.1), (48, .str a0), (47, .int .i64 (shlC .i64 z7.2.1 4)), (46, .int .i64 z7.2.1), (45, .bool true), (0, .str a0), (1, .int .i64 a1), (6, .int .i64 z5.1), (7, .int .i64 z5.2.1), (8, .int .i64 z5.2.2), (9, .int .i64 z7.2.1), (10, .int .i64 z7.2.2), (45, .bool z7.1)]
    refine oR 11 (p' := (atN 6 (ctl1 g61p9))) (eE := E4) (H' := (mkH [])) (by kernel_rfl) ?_
    refine oH (fun (x2_6 : Int) => (.int .u8 x2_6, (mkH []))) (atN 7 (ctl1 g61p9)) (fun x2_6 => ((52, .int .u8 x2_6) :: E4)) (idxH (by kernel_rfl)) (fun _ => by kernel_rfl) (fun x2_6 hx2_6 => ?_)
    refine oC (fun (x2_7 : Int) => .int .i64 x2_7) (atN 8 (ctl1 g61p9)) (fun x2_7 => ((53, .int .i64 x2_7) :: (52, .int .u8 x2_6) :: E4)) (fi := 63) (args := [.int .u8 x2_6]) (by kernel_rfl) (by kernel_rfl) (fun _ => by kernel_rfl) (fun r h => g63_ok k x2_6 r h) (fun _ => by kernel_rfl) (fun x2_7 hx2_7 => ?_)
    refine oR 3 (p' := g61p11) (eE := ((9, .int .i64 (orI .i64 (shlC .i64 z7.2.1 4) x2_7)) :: (54, .int .i64 (orI .i64 (shlC .i64 z7.2.1 4) x2_7)) :: (53, .int .i64 x2_7) :: (52, .int .u8 x2_6) :: E4)) (H' := (mkH [])) (by kernel_rfl) ?_
    refine oK [0, 1, 6, 7, 8, 9, 10] (eE := [(0, .str a0), (1, .int .i64 a1), (6, .int .i64 z5.1), (7, .int .i64 z5.2.1), (8, .int .i64 z5.2.2), (9, .int .i64 (orI .i64 (shlC .i64 z7.2.1 4) x2_7)), (10, .int .i64 z7.2.2)]) (by kernel_rfl) ?_
    let E5 : Env := [(10, .int .i64 (fW .i64 (z7.2.2 + 1))), (56, .int .i64 (fW .i64 (z7.2.2 + 1))), (55, .int .i64 z7.2.2), (0, .str a0), (1, .int .i64 a1), (6, .int .i64 z5.1), (7, .int .i64 z5.2.1), (8, .int .i64 z5.2.2), (9, .int .i64 (orI .i64 (shlC .i64 z7.2.1 4) x2_7)), (10, .int .i64 z7.2.2)]
    refine oR 5 (p' := g61p6) (eE := E5) (H' := (mkH [])) (by kernel_rfl) ?_
    refine oK [0, 1, 6, 7, 8, 9, 10] (eE := [(0, .str a0), (1, .int .i64 a1), (6, .int .i64 z5.1), (7, .int .i64 z5.2.1), (8, .int .i64 z5.2.2), (9, .int .i64 (orI .i64 (shlC .i64 z7.2.1 4) x2_7)), (10, .int .i64 (fW .i64 (z7.2.2 + 1)))]) (by kernel_rfl) ?_
    exact ih (orI .i64 (shlC .i64 z7.2.1 4) x2_7) (fW .i64 (z7.2.2 + 1))
   ·let E6 : Env := [(11, .int .i64 (fW .i64 (z5.1 + z7.2.2))), (59, .int .i64 (fW .i64 (z5.1 + z7.2.2))), (58, .int .i64 z7.2.2), (57, .int .i64 z5.1), (45, .bool false), (0, .str a0), (1, .int .i64 a1), (6, .int .i64 z5.1), (7, .int .i64 z5.2.1), (8, .int .i64 z5.2.2), (9, .int .i64 z7.2.1), (10, .int .i64 z7.2.2), (45, .bool z7.1)]
    refine oR 11 (p' := g61p12) (eE := E6) (H' := (mkH [])) (by kernel_rfl) ?_
    refine oK [0, 1, 8, 9, 10, 11] (eE := [(0, .str a0), (1, .int .i64 a1), (8, .int .i64 z5.2.2), (9, .int .i64 z7.2.1), (10, .int .i64 z7.2.2), (11, .int .i64 (fW .i64 (z5.1 + z7.2.2)))]) (by kernel_rfl) ?_
    let E7 : Env := [(62, .bool (decide (z5.2.2 = 0))), (61, .bool (decide (z5.2.2 = 0))), (60, .int .i64 z5.2.2), (0, .str a0), (1, .int .i64 a1), (8, .int .i64 z5.2.2), (9, .int .i64 z7.2.1), (10, .int .i64 z7.2.2), (11, .int .i64 (fW .i64 (z5.1 + z7.2.2)))]
    refine oR 4 (p' := (atN 3 (ctl1 g61p12))) (eE := E7) (H' := (mkH [])) (by kernel_rfl) ?_
    refine oJ (f := fun (z8 : Int × Int × Bool) => if z8.2.2 then (some (((-1) : Int), (0 : Int))) else (some (z8.1, fW .i64 (fW .i64 (z8.2.1 + z5.2.2) - a1)))) g61p13 (fun (z8 : Int × Int × Bool) => [(1, .int .i64 a1), (8, .int .i64 z5.2.2), (9, .int .i64 z8.1), (11, .int .i64 z8.2.1), (90, .bool z8.2.2)]) (fun (z8 : Int × Int × Bool) => (mkH [])) (fun z8 => ?_) (fun j8 hj8 => ?_)
    ·refine oS 90 (b := z8.2.2) (by kernel_rfl) (fun hb => ?_) (fun hb => ?_)
     ·let E8 : Env := [(5, .int .i64 0), (4, .int .i64 (-1)), (90, .bool true), (1, .int .i64 a1), (8, .int .i64 z5.2.2), (9, .int .i64 z8.1), (11, .int .i64 z8.2.1), (90, .bool z8.2.2)]
      refine oR 7 (p' := .fin) (eE := E8) (H' := (mkH [])) (by kernel_rfl) ?_
      exact oT (r := (((-1) : Int), (0 : Int))) (xs := [.int .i64 (-1), .int .i64 0]) (v := .tuple [.int .i64 (-1), .int .i64 0]) (by kernel_rfl) (by kernel_rfl) (by kernel_rfl) (.pures (by kernel_rfl)) (by kernel_rfl)
     ·let E9 : Env := [(5, .int .i64 (fW .i64 (fW .i64 (z8.2.1 + z5.2.2) - a1))), (4, .int .i64 z8.1), (96, .int .i64 (fW .i64 (fW .i64 (z8.2.1 + z5.2.2) - a1))), (95, .int .i64 a1), (94, .int .i64 (fW .i64 (z8.2.1 + z5.2.2))), (93, .int .i64 z5.2.2), (92, .int .i64 z8.2.1), (91, .int .i64 z8.1), (90, .bool false), (1, .int .i64 a1), (8, .int .i64 z5.2.2), (9, .int .i64 z8.1), (11, .int .i64 z8.2.1), (90, .bool z8.2.2)]
      refine oR 14 (p' := .fin) (eE := E9) (H' := (mkH [])) (by kernel_rfl) ?_
      exact oT (r := (z8.1, fW .i64 (fW .i64 (z8.2.1 + z5.2.2) - a1))) (xs := [.int .i64 z8.1, .int .i64 (fW .i64 (fW .i64 (z8.2.1 + z5.2.2) - a1))]) (v := .tuple [.int .i64 z8.1, .int .i64 (fW .i64 (fW .i64 (z8.2.1 + z5.2.2) - a1))]) (by kernel_rfl) (by kernel_rfl) (by kernel_rfl) (.pures (by kernel_rfl)) (by kernel_rfl)
    ·refine oS 62 (b := decide (z5.2.2 = 0)) (by kernel_rfl) (fun hb => ?_) (fun hb => ?_)
     ·let E10 : Env := ((66, .bool (decide (z7.2.2 < 2))) :: (65, .bool (decide (z7.2.2 < 2))) :: (64, .bool (decide (z7.2.2 < 2))) :: (63, .int .i64 z7.2.2) :: (62, .bool true) :: E7)
      refine oR 4 (p' := (atN 7 (ctl1 g61p12))) (eE := E10) (H' := (mkH [])) (by kernel_rfl) ?_
      refine oS 66 (b := decide (z7.2.2 < 2)) (by kernel_rfl) (fun hb => ?_) (fun hb => ?_)
      ·let E11 : Env := ((90, .bool true) :: (89, .tuple []) :: (88, .tuple []) :: (87, .tuple []) :: (86, .bool true) :: (85, .bool true) :: (84, .tuple []) :: (83, .tuple []) :: (82, .tuple []) :: (81, .tuple []) :: (80, .tuple []) :: (79, .tuple []) :: (78, .tuple []) :: (77, .tuple []) :: (76, .tuple []) :: (75, .tuple []) :: (74, .tuple []) :: (73, .tuple []) :: (72, .tuple []) :: (71, .tuple []) :: (70, .bool true) :: (69, .bool true) :: (68, .tuple []) :: (67, .tuple []) :: (66, .bool true) :: E10)
       refine oR 25 (p' := g61p13) (eE := E11) (H' := (mkH [])) (by kernel_rfl) ?_
       refine oK [1, 8, 9, 11, 90] (eE := [(1, .int .i64 a1), (8, .int .i64 z5.2.2), (9, .int .i64 z7.2.1), (11, .int .i64 (fW .i64 (z5.1 + z7.2.2))), (90, .bool true)]) (by kernel_rfl) ?_
       exact hj8 (z7.2.1, fW .i64 (z5.1 + z7.2.2), true)
      ·let E12 : Env := ((70, .bool (decide (z7.2.2 < 1))) :: (69, .bool (decide (z7.2.2 < 1))) :: (68, .bool (decide (z7.2.2 < 1))) :: (67, .int .i64 z7.2.2) :: (66, .bool false) :: E10)
       refine oR 4 (p' := (atN 11 (ctl1 g61p12))) (eE := E12) (H' := (mkH [])) (by kernel_rfl) ?_
       refine oS 70 (b := decide (z7.2.2 < 1)) (by kernel_rfl) (fun hb => ?_) (fun hb => ?_)
       ·let E13 : Env := ((90, .bool true) :: (89, .tuple []) :: (88, .tuple []) :: (87, .tuple []) :: (86, .bool true) :: (85, .bool true) :: (84, .tuple []) :: (83, .tuple []) :: (82, .tuple []) :: (81, .tuple []) :: (80, .tuple []) :: (79, .tuple []) :: (78, .tuple []) :: (77, .tuple []) :: (76, .tuple []) :: (75, .tuple []) :: (74, .tuple []) :: (73, .tuple []) :: (72, .tuple []) :: (71, .tuple []) :: (70, .bool true) :: E12)
        refine oR 21 (p' := g61p13) (eE := E13) (H' := (mkH [])) (by kernel_rfl) ?_
        refine oK [1, 8, 9, 11, 90] (eE := [(1, .int .i64 a1), (8, .int .i64 z5.2.2), (9, .int .i64 z7.2.1), (11, .int .i64 (fW .i64 (z5.1 + z7.2.2))), (90, .bool true)]) (by kernel_rfl) ?_
        exact hj8 (z7.2.1, fW .i64 (z5.1 + z7.2.2), true)
       ·refine oR 3 (p' := (atN 14 (ctl1 g61p12))) (eE := ((73, .bool (decide (z5.2.2 = 1))) :: (72, .bool (decide (z5.2.2 = 1))) :: (71, .int .i64 z5.2.2) :: (70, .bool false) :: E12)) (H' := (mkH [])) (by kernel_rfl) ?_
        refine oS 73 (b := decide (z5.2.2 = 1)) (by kernel_rfl) (fun hb => ?_) (fun hb => ?_)
        ·let E14 : Env := ((78, .bool (decide ((a0.length : Int) ≤ fW .i64 (z5.1 + z7.2.2)))) :: (77, .bool (decide ((a0.length : Int) ≤ fW .i64 (z5.1 + z7.2.2)))) :: (76, .int .i64 (a0.length : Int)) :: (75, .str a0) :: (74, .int .i64 (fW .i64 (z5.1 + z7.2.2))) :: (73, .bool true) :: (73, .bool (decide (z5.2.2 = 1))) :: (72, .bool (decide (z5.2.2 = 1))) :: (71, .int .i64 z5.2.2) :: (70, .bool false) :: E12)
         refine oR 5 (p' := (atN 19 (ctl1 g61p12))) (eE := E14) (H' := (mkH [])) (by kernel_rfl) ?_
         refine oS 78 (b := decide ((a0.length : Int) ≤ fW .i64 (z5.1 + z7.2.2))) (by kernel_rfl) (fun hb => ?_) (fun hb => ?_)
         ·let E15 : Env := ((90, .bool true) :: (89, .tuple []) :: (88, .tuple []) :: (87, .tuple []) :: (86, .bool true) :: (85, .bool true) :: (84, .bool true) :: (83, .bool true) :: (82, .tuple []) :: (81, .tuple []) :: (80, .tuple []) :: (79, .tuple []) :: (78, .bool true) :: E14)
          refine oR 13 (p' := g61p13) (eE := E15) (H' := (mkH [])) (by kernel_rfl) ?_
          refine oK [1, 8, 9, 11, 90] (eE := [(1, .int .i64 a1), (8, .int .i64 z5.2.2), (9, .int .i64 z7.2.1), (11, .int .i64 (fW .i64 (z5.1 + z7.2.2))), (90, .bool true)]) (by kernel_rfl) ?_
          exact hj8 (z7.2.1, fW .i64 (z5.1 + z7.2.2), true)
         ·refine oR 2 (p' := (atN 21 (ctl1 g61p12))) (eE := ((80, .int .i64 (fW .i64 (z5.1 + z7.2.2))) :: (79, .str a0) :: (78, .bool false) :: E14)) (H' := (mkH [])) (by kernel_rfl) ?_
          refine oH (fun (x3_21 : Int) => (.int .u8 x3_21, (mkH []))) (atN 22 (ctl1 g61p12)) (fun x3_21 => ((81, .int .u8 x3_21) :: (80, .int .i64 (fW .i64 (z5.1 + z7.2.2))) :: (79, .str a0) :: (78, .bool false) :: E14)) (idxH (by kernel_rfl)) (fun _ => by kernel_rfl) (fun x3_21 hx3_21 => ?_)
          let E16 : Env := ((86, .bool (!decide (x3_21 = 125))) :: (85, .bool (!decide (x3_21 = 125))) :: (84, .bool (!decide (x3_21 = 125))) :: (83, .bool (!decide (x3_21 = 125))) :: (82, .bool (!decide (x3_21 = 125))) :: (81, .int .u8 x3_21) :: (80, .int .i64 (fW .i64 (z5.1 + z7.2.2))) :: (79, .str a0) :: (78, .bool false) :: E14)
          refine oR 5 (p' := (atN 27 (ctl1 g61p12))) (eE := E16) (H' := (mkH [])) (by kernel_rfl) ?_
          refine oS 86 (b := !decide (x3_21 = 125)) (by kernel_rfl) (fun hb => ?_) (fun hb => ?_)
          ·let E17 : Env := ((90, .bool true) :: (89, .tuple []) :: (88, .tuple []) :: (87, .tuple []) :: (86, .bool true) :: E16)
           refine oR 5 (p' := g61p13) (eE := E17) (H' := (mkH [])) (by kernel_rfl) ?_
           refine oK [1, 8, 9, 11, 90] (eE := [(1, .int .i64 a1), (8, .int .i64 z5.2.2), (9, .int .i64 z7.2.1), (11, .int .i64 (fW .i64 (z5.1 + z7.2.2))), (90, .bool true)]) (by kernel_rfl) ?_
           exact hj8 (z7.2.1, fW .i64 (z5.1 + z7.2.2), true)
          ·refine oR 1 (p' := (atN 28 (ctl1 g61p12))) (eE := ((87, .int .i64 z7.2.1) :: (86, .bool false) :: E16)) (H' := (mkH [])) (by kernel_rfl) ?_
           refine oC (fun (x3_28 : (List Nat)) => .str x3_28) (atN 29 (ctl1 g61p12)) (fun x3_28 => ((88, .str x3_28) :: (87, .int .i64 z7.2.1) :: (86, .bool false) :: E16)) (fi := 67) (args := [.int .i64 z7.2.1]) (by kernel_rfl) (by kernel_rfl) (fun _ => by kernel_rfl) (fun r h => g67_ok k z7.2.1 r h) (fun _ => by kernel_rfl) (fun x3_28 hx3_28 => ?_)
           let E18 : Env := ((90, .bool (eqL x3_28 [])) :: (89, .bool (eqL x3_28 [])) :: (88, .str x3_28) :: (87, .int .i64 z7.2.1) :: (86, .bool false) :: E16)
           refine oR 3 (p' := g61p13) (eE := E18) (H' := (mkH [])) (by kernel_rfl) ?_
           refine oK [1, 8, 9, 11, 90] (eE := [(1, .int .i64 a1), (8, .int .i64 z5.2.2), (9, .int .i64 z7.2.1), (11, .int .i64 (fW .i64 (z5.1 + z7.2.2))), (90, .bool (eqL x3_28 []))]) (by kernel_rfl) ?_
           exact hj8 (z7.2.1, fW .i64 (z5.1 + z7.2.2), eqL x3_28 [])
        ·let E19 : Env := ((87, .int .i64 z7.2.1) :: (86, .bool false) :: (85, .bool false) :: (84, .bool false) :: (83, .tuple []) :: (82, .tuple []) :: (81, .tuple []) :: (80, .tuple []) :: (79, .tuple []) :: (78, .tuple []) :: (77, .tuple []) :: (76, .tuple []) :: (75, .tuple []) :: (74, .tuple []) :: (73, .bool false) :: (73, .bool (decide (z5.2.2 = 1))) :: (72, .bool (decide (z5.2.2 = 1))) :: (71, .int .i64 z5.2.2) :: (70, .bool false) :: E12)
         refine oR 14 (p' := (atN 28 (ctl1 g61p12))) (eE := E19) (H' := (mkH [])) (by kernel_rfl) ?_
         refine oC (fun (x3_28 : (List Nat)) => .str x3_28) (atN 29 (ctl1 g61p12)) (fun x3_28 => ((88, .str x3_28) :: E19)) (fi := 67) (args := [.int .i64 z7.2.1]) (by kernel_rfl) (by kernel_rfl) (fun _ => by kernel_rfl) (fun r h => g67_ok k z7.2.1 r h) (fun _ => by kernel_rfl) (fun x3_28 hx3_28 => ?_)
         refine oR 3 (p' := g61p13) (eE := ((90, .bool (eqL x3_28 [])) :: (89, .bool (eqL x3_28 [])) :: (88, .str x3_28) :: E19)) (H' := (mkH [])) (by kernel_rfl) ?_
         refine oK [1, 8, 9, 11, 90] (eE := [(1, .int .i64 a1), (8, .int .i64 z5.2.2), (9, .int .i64 z7.2.1), (11, .int .i64 (fW .i64 (z5.1 + z7.2.2))), (90, .bool (eqL x3_28 []))]) (by kernel_rfl) ?_
         exact hj8 (z7.2.1, fW .i64 (z5.1 + z7.2.2), eqL x3_28 [])
     ·let E20 : Env := ((70, .bool (decide (z7.2.2 < 1))) :: (69, .bool (decide (z7.2.2 < 1))) :: (68, .bool (decide (z7.2.2 < 1))) :: (67, .int .i64 z7.2.2) :: (66, .bool false) :: (65, .bool false) :: (64, .tuple []) :: (63, .tuple []) :: (62, .bool false) :: E7)
      refine oR 8 (p' := (atN 11 (ctl1 g61p12))) (eE := E20) (H' := (mkH [])) (by kernel_rfl) ?_
      refine oS 70 (b := decide (z7.2.2 < 1)) (by kernel_rfl) (fun hb => ?_) (fun hb => ?_)
      ·let E21 : Env := ((90, .bool true) :: (89, .tuple []) :: (88, .tuple []) :: (87, .tuple []) :: (86, .bool true) :: (85, .bool true) :: (84, .tuple []) :: (83, .tuple []) :: (82, .tuple []) :: (81, .tuple []) :: (80, .tuple []) :: (79, .tuple []) :: (78, .tuple []) :: (77, .tuple []) :: (76, .tuple []) :: (75, .tuple []) :: (74, .tuple []) :: (73, .tuple []) :: (72, .tuple []) :: (71, .tuple []) :: (70, .bool true) :: E20)
       refine oR 21 (p' := g61p13) (eE := E21) (H' := (mkH [])) (by kernel_rfl) ?_
       refine oK [1, 8, 9, 11, 90] (eE := [(1, .int .i64 a1), (8, .int .i64 z5.2.2), (9, .int .i64 z7.2.1), (11, .int .i64 (fW .i64 (z5.1 + z7.2.2))), (90, .bool true)]) (by kernel_rfl) ?_
       exact hj8 (z7.2.1, fW .i64 (z5.1 + z7.2.2), true)
      ·refine oR 3 (p' := (atN 14 (ctl1 g61p12))) (eE := ((73, .bool (decide (z5.2.2 = 1))) :: (72, .bool (decide (z5.2.2 = 1))) :: (71, .int .i64 z5.2.2) :: (70, .bool false) :: E20)) (H' := (mkH [])) (by kernel_rfl) ?_
       refine oS 73 (b := decide (z5.2.2 = 1)) (by kernel_rfl) (fun hb => ?_) (fun hb => ?_)
       ·let E22 : Env := ((78, .bool (decide ((a0.length : Int) ≤ fW .i64 (z5.1 + z7.2.2)))) :: (77, .bool (decide ((a0.length : Int) ≤ fW .i64 (z5.1 + z7.2.2)))) :: (76, .int .i64 (a0.length : Int)) :: (75, .str a0) :: (74, .int .i64 (fW .i64 (z5.1 + z7.2.2))) :: (73, .bool true) :: (73, .bool (decide (z5.2.2 = 1))) :: (72, .bool (decide (z5.2.2 = 1))) :: (71, .int .i64 z5.2.2) :: (70, .bool false) :: E20)
        refine oR 5 (p' := (atN 19 (ctl1 g61p12))) (eE := E22) (H' := (mkH [])) (by kernel_rfl) ?_
        refine oS 78 (b := decide ((a0.length : Int) ≤ fW .i64 (z5.1 + z7.2.2))) (by kernel_rfl) (fun hb => ?_) (fun hb => ?_)
        ·let E23 : Env := ((90, .bool true) :: (89, .tuple []) :: (88, .tuple []) :: (87, .tuple []) :: (86, .bool true) :: (85, .bool true) :: (84, .bool true) :: (83, .bool true) :: (82, .tuple []) :: (81, .tuple []) :: (80, .tuple []) :: (79, .tuple []) :: (78, .bool true) :: E22)
         refine oR 13 (p' := g61p13) (eE := E23) (H' := (mkH [])) (by kernel_rfl) ?_
         refine oK [1, 8, 9, 11, 90] (eE := [(1, .int .i64 a1), (8, .int .i64 z5.2.2), (9, .int .i64 z7.2.1), (11, .int .i64 (fW .i64 (z5.1 + z7.2.2))), (90, .bool true)]) (by kernel_rfl) ?_
         exact hj8 (z7.2.1, fW .i64 (z5.1 + z7.2.2), true)
        ·refine oR 2 (p' := (atN 21 (ctl1 g61p12))) (eE := ((80, .int .i64 (fW .i64 (z5.1 + z7.2.2))) :: (79, .str a0) :: (78, .bool false) :: E22)) (H' := (mkH [])) (by kernel_rfl) ?_
         refine oH (fun (x3_21 : Int) => (.int .u8 x3_21, (mkH []))) (atN 22 (ctl1 g61p12)) (fun x3_21 => ((81, .int .u8 x3_21) :: (80, .int .i64 (fW .i64 (z5.1 + z7.2.2))) :: (79, .str a0) :: (78, .bool false) :: E22)) (idxH (by kernel_rfl)) (fun _ => by kernel_rfl) (fun x3_21 hx3_21 => ?_)
         let E24 : Env := ((86, .bool (!decide (x3_21 = 125))) :: (85, .bool (!decide (x3_21 = 125))) :: (84, .bool (!decide (x3_21 = 125))) :: (83, .bool (!decide (x3_21 = 125))) :: (82, .bool (!decide (x3_21 = 125))) :: (81, .int .u8 x3_21) :: (80, .int .i64 (fW .i64 (z5.1 + z7.2.2))) :: (79, .str a0) :: (78, .bool false) :: E22)
         refine oR 5 (p' := (atN 27 (ctl1 g61p12))) (eE := E24) (H' := (mkH [])) (by kernel_rfl) ?_
         refine oS 86 (b := !decide (x3_21 = 125)) (by kernel_rfl) (fun hb => ?_) (fun hb => ?_)
         ·let E25 : Env := ((90, .bool true) :: (89, .tuple []) :: (88, .tuple []) :: (87, .tuple []) :: (86, .bool true) :: E24)
          refine oR 5 (p' := g61p13) (eE := E25) (H' := (mkH [])) (by kernel_rfl) ?_
          refine oK [1, 8, 9, 11, 90] (eE := [(1, .int .i64 a1), (8, .int .i64 z5.2.2), (9, .int .i64 z7.2.1), (11, .int .i64 (fW .i64 (z5.1 + z7.2.2))), (90, .bool true)]) (by kernel_rfl) ?_
          exact hj8 (z7.2.1, fW .i64 (z5.1 + z7.2.2), true)
         ·refine oR 1 (p' := (atN 28 (ctl1 g61p12))) (eE := ((87, .int .i64 z7.2.1) :: (86, .bool false) :: E24)) (H' := (mkH [])) (by kernel_rfl) ?_
          refine oC (fun (x3_28 : (List Nat)) => .str x3_28) (atN 29 (ctl1 g61p12)) (fun x3_28 => ((88, .str x3_28) :: (87, .int .i64 z7.2.1) :: (86, .bool false) :: E24)) (fi := 67) (args := [.int .i64 z7.2.1]) (by kernel_rfl) (by kernel_rfl) (fun _ => by kernel_rfl) (fun r h => g67_ok k z7.2.1 r h) (fun _ => by kernel_rfl) (fun x3_28 hx3_28 => ?_)
          let E26 : Env := ((90, .bool (eqL x3_28 [])) :: (89, .bool (eqL x3_28 [])) :: (88, .str x3_28) :: (87, .int .i64 z7.2.1) :: (86, .bool false) :: E24)
          refine oR 3 (p' := g61p13) (eE := E26) (H' := (mkH [])) (by kernel_rfl) ?_
          refine oK [1, 8, 9, 11, 90] (eE := [(1, .int .i64 a1), (8, .int .i64 z5.2.2), (9, .int .i64 z7.2.1), (11, .int .i64 (fW .i64 (z5.1 + z7.2.2))), (90, .bool (eqL x3_28 []))]) (by kernel_rfl) ?_
          exact hj8 (z7.2.1, fW .i64 (z5.1 + z7.2.2), eqL x3_28 [])
       ·let E27 : Env := ((87, .int .i64 z7.2.1) :: (86, .bool false) :: (85, .bool false) :: (84, .bool false) :: (83, .tuple []) :: (82, .tuple []) :: (81, .tuple []) :: (80, .tuple []) :: (79, .tuple []) :: (78, .tuple []) :: (77, .tuple []) :: (76, .tuple []) :: (75, .tuple []) :: (74, .tuple []) :: (73, .bool false) :: (73, .bool (decide (z5.2.2 = 1))) :: (72, .bool (decide (z5.2.2 = 1))) :: (71, .int .i64 z5.2.2) :: (70, .bool false) :: E20)
        refine oR 14 (p' := (atN 28 (ctl1 g61p12))) (eE := E27) (H' := (mkH [])) (by kernel_rfl) ?_
        refine oC (fun (x3_28 : (List Nat)) => .str x3_28) (atN 29 (ctl1 g61p12)) (fun x3_28 => ((88, .str x3_28) :: E27)) (fi := 67) (args := [.int .i64 z7.2.1]) (by kernel_rfl) (by kernel_rfl) (fun _ => by kernel_rfl) (fun r h => g67_ok k z7.2.1 r h) (fun _ => by kernel_rfl) (fun x3_28 hx3_28 => ?_)
        refine oR 3 (p' := g61p13) (eE := ((90, .bool (eqL x3_28 [])) :: (89, .bool (eqL x3_28 [])) :: (88, .str x3_28) :: E27)) (H' := (mkH [])) (by kernel_rfl) ?_
        refine oK [1, 8, 9, 11, 90] (eE := [(1, .int .i64 a1), (8, .int .i64 z5.2.2), (9, .int .i64 z7.2.1), (11, .int .i64 (fW .i64 (z5.1 + z7.2.2))), (90, .bool (eqL x3_28 []))]) (by kernel_rfl) ?_
        exact hj8 (z7.2.1, fW .i64 (z5.1 + z7.2.2), eqL x3_28 [])
  ·refine oS 29 (b := decide (y6_1 < z5.2.1)) (by kernel_rfl) (fun hb => ?_) (fun hb => ?_)
   ·let E28 : Env := ((37, .bool (decide (fW .i64 (z5.1 + y6_1) < (a0.length : Int)))) :: (36, .bool (decide (fW .i64 (z5.1 + y6_1) < (a0.length : Int)))) :: (35, .bool (decide (fW .i64 (z5.1 + y6_1) < (a0.length : Int)))) :: (34, .int .i64 (a0.length : Int)) :: (33, .str a0) :: (32, .int .i64 (fW .i64 (z5.1 + y6_1))) :: (31, .int .i64 y6_1) :: (30, .int .i64 z5.1) :: (29, .bool true) :: E3)
    refine oR 8 (p' := (atN 12 (ctl1 g61p7))) (eE := E28) (H' := (mkH [])) (by kernel_rfl) ?_
    refine oS 37 (b := decide (fW .i64 (z5.1 + y6_1) < (a0.length : Int))) (by kernel_rfl) (fun hb => ?_) (fun hb => ?_)
    ·let E29 : Env := ((41, .int .i64 (fW .i64 (z5.1 + y6_1))) :: (40, .int .i64 y6_1) :: (39, .int .i64 z5.1) :: (38, .str a0) :: (37, .bool true) :: E28)
     refine oR 4 (p' := (atN 16 (ctl1 g61p7))) (eE := E29) (H' := (mkH [])) (by kernel_rfl) ?_
     refine oH (fun (x1_16 : Int) => (.int .u8 x1_16, (mkH []))) (atN 17 (ctl1 g61p7)) (fun x1_16 => ((42, .int .u8 x1_16) :: E29)) (idxH (by kernel_rfl)) (fun _ => by kernel_rfl) (fun x1_16 hx1_16 => ?_)
     refine oC (fun (x1_17 : Int) => .int .i64 x1_17) (atN 18 (ctl1 g61p7)) (fun x1_17 => ((43, .int .i64 x1_17) :: (42, .int .u8 x1_16) :: E29)) (fi := 63) (args := [.int .u8 x1_16]) (by kernel_rfl) (by kernel_rfl) (fun _ => by kernel_rfl) (fun r h => g63_ok k x1_16 r h) (fun _ => by kernel_rfl) (fun x1_17 hx1_17 => ?_)
     refine oR 3 (p' := g61p8) (eE := ((45, .bool (decide (x1_17 < 16))) :: (44, .bool (decide (x1_17 < 16))) :: (43, .int .i64 x1_17) :: (42, .int .u8 x1_16) :: E29)) (H' := (mkH [])) (by kernel_rfl) ?_
     refine oK [0, 1, 6, 7, 8, 9, 10, 45] (eE := [(0, .str a0), (1, .int .i64 a1), (6, .int .i64 z5.1), (7, .int .i64 z5.2.1), (8, .int .i64 z5.2.2), (9, .int .i64 y6_0), (10, .int .i64 y6_1), (45, .bool (decide (x1_17 < 16)))]) (by kernel_rfl) ?_
     exact hj7 (decide (x1_17 < 16), y6_0, y6_1)
    ·let E30 : Env := ((45, .bool false) :: (44, .tuple []) :: (43, .tuple []) :: (42, .tuple []) :: (41, .tuple []) :: (40, .tuple []) :: (39, .tuple []) :: (38, .tuple []) :: (37, .bool false) :: E28)
     refine oR 9 (p' := g61p8) (eE := E30) (H' := (mkH [])) (by kernel_rfl) ?_
     refine oK [0, 1, 6, 7, 8, 9, 10, 45] (eE := [(0, .str a0), (1, .int .i64 a1), (6, .int .i64 z5.1), (7, .int .i64 z5.2.1), (8, .int .i64 z5.2.2), (9, .int .i64 y6_0), (10, .int .i64 y6_1), (45, .bool false)]) (by kernel_rfl) ?_
     exact hj7 (false, y6_0, y6_1)
   ·let E31 : Env := ((45, .bool false) :: (44, .tuple []) :: (43, .tuple []) :: (42, .tuple []) :: (41, .tuple []) :: (40, .tuple []) :: (39, .tuple []) :: (38, .tuple []) :: (37, .bool false) :: (36, .bool false) :: (35, .tuple []) :: (34, .tuple []) :: (33, .tuple []) :: (32, .tuple []) :: (31, .tuple []) :: (30, .tuple []) :: (29, .bool false) :: E3)
    refine oR 17 (p' := g61p8) (eE := E31) (H' := (mkH [])) (by kernel_rfl) ?_
    refine oK [0, 1, 6, 7, 8, 9, 10, 45] (eE := [(0, .str a0), (1, .int .i64 a1), (6, .int .i64 z5.1), (7, .int .i64 z5.2.1), (8, .int .i64 z5.2.2), (9, .int .i64 y6_0), (10, .int .i64 y6_1), (45, .bool false)]) (by kernel_rfl) ?_
    exact hj7 (false, y6_0, y6_1)
def g61 (k : Nat) (a0 : (List Nat)) (a1 : Int) : Option (Int × Int) :=
 jn (fun (z4 : Bool) => jn (fun (z5 : Int × Int × Int) => g61_l6 k a0 a1 z5 k 0 0) (fun j5 => if z4 then (j5 (fW .i64 (fW .i64 (a1 + 2) + 1), 6, 1)) else (j5 (fW .i64 (a1 + 2), 2, 0)))) (fun j4 => if (decide (fW .i64 (a1 + 2) < (a0.length : Int))) then ((nthS a0 (fW .i64 (a1 + 2))).bind fun x0_7 => j4 (decide (x0_7 = 123))) else (j4 false))
theorem g61_ok (k : Nat) (a0 : (List Nat)) (a1 : Int) (r : (Int × Int)) (h : g61 k a0 a1 = some r) : PureOk Try.prog 61 [.str a0, .int .i64 a1] (.tuple [.int .i64 r.1, .int .i64 r.2]) := by
 refine pure_of X61 (fun _ => rfl) Try.func61 (by decide +kernel) (by kernel_rfl) (t := g61 k a0 a1) ?_ h
 unfold g61
 refine oE (eE := [(0, .str a0), (1, .int .i64 a1)]) (by kernel_rfl) ?_
 let E1 : Env := [(18, .bool (decide (fW .i64 (a1 + 2) < (a0.length : Int)))), (17, .bool (decide (fW .i64 (a1 + 2) < (a0.length : Int)))), (16, .int .i64 (a0.length : Int)), (15, .str a0), (14, .int .i64 (fW .i64 (a1 + 2))), (8, .int .i64 0), (7, .int .i64 2), (6, .int .i64 (fW .i64 (a1 + 2))), (13, .int .i64 (fW .i64 (a1 + 2))), (12, .int .i64 a1), (5, .int .i64 0), (4, .int .i64 0), (0, .str a0), (1, .int .i64 a1)]
 refine oR 21 (p' := (atN 5 (ctl1 g61p2))) (eE := E1) (H' := (mkH [])) (by kernel_rfl) ?_
 refine oJ (f := fun (z4 : Bool) => jn (fun (z5 : Int × Int × Int) => g61_l6 k a0 a1 z5 k 0 0) (fun j5 => if z4 then (j5 (fW .i64 (fW .i64 (a1 + 2) + 1), 6, 1)) else (j5 (fW .i64 (a1 + 2), 2, 0)))) g61p3 (fun (z4 : Bool) => [(0, .str a0), (1, .int .i64 a1), (6, .int .i64 (fW .i64 (a1 + 2))), (7, .int .i64 2), (8, .int .i64 0), (23, .bool z4)]) (fun (z4 : Bool) => (mkH [])) (fun z4 => ?_) (fun j4 hj4 => ?_)
 ·refine oJ (f := fun (z5 : Int × Int × Int) => g61_l6 k a0 a1 z5 k 0 0) g61p5 (fun (z5 : Int × Int × Int) => [(0, .str a0), (1, .int .i64 a1), (6, .int .i64 z5.1), (7, .int .i64 z5.2.1), (8, .int .i64 z5.2.2)]) (fun (z5 : Int × Int × Int) => (mkH [])) (fun z5 => ?_) (fun j5 hj5 => ?_)
  ·let E2 : Env := [(10, .int .i64 0), (9, .int .i64 0), (0, .str a0), (1, .int .i64 a1), (6, .int .i64 z5.1), (7, .int .i64 z5.2.1), (8, .int .i64 z5.2.2)]
   refine oR 7 (p' := g61p6) (eE := E2) (H' := (mkH [])) (by kernel_rfl) ?_
   refine oK [0, 1, 6, 7, 8, 9, 10] (eE := [(0, .str a0), (1, .int .i64 a1), (6, .int .i64 z5.1), (7, .int .i64 z5.2.1), (8, .int .i64 z5.2.2), (9, .int .i64 0), (10, .int .i64 0)]) (by kernel_rfl) ?_
   exact (g61_l6_ok k a0 a1 z5 k) 0 0
  ·refine oS 23 (b := z4) (by kernel_rfl) (fun hb => ?_) (fun hb => ?_)
   ·let E32 : Env := [(8, .int .i64 1), (7, .int .i64 6), (6, .int .i64 (fW .i64 (fW .i64 (a1 + 2) + 1))), (25, .int .i64 (fW .i64 (fW .i64 (a1 + 2) + 1))), (24, .int .i64 (fW .i64 (a1 + 2))), (23, .bool true), (0, .str a0), (1, .int .i64 a1), (6, .int .i64 (fW .i64 (a1 + 2))), (7, .int .i64 2), (8, .int .i64 0), (23, .bool z4)]
    refine oR 9 (p' := g61p5) (eE := E32) (H' := (mkH [])) (by kernel_rfl) ?_
    refine oK [0, 1, 6, 7, 8] (eE := [(0, .str a0), (1, .int .i64 a1), (6, .int .i64 (fW .i64 (fW .i64 (a1 + 2) + 1))), (7, .int .i64 6), (8, .int .i64 1)]) (by kernel_rfl) ?_
    exact hj5 (fW .i64 (fW .i64 (a1 + 2) + 1), 6, 1)
   ·let E33 : Env := [(23, .bool false), (0, .str a0), (1, .int .i64 a1), (6, .int .i64 (fW .i64 (a1 + 2))), (7, .int .i64 2), (8, .int .i64 0), (23, .bool z4)]
    refine oR 3 (p' := g61p5) (eE := E33) (H' := (mkH [])) (by kernel_rfl) ?_
    refine oK [0, 1, 6, 7, 8] (eE := [(0, .str a0), (1, .int .i64 a1), (6, .int .i64 (fW .i64 (a1 + 2))), (7, .int .i64 2), (8, .int .i64 0)]) (by kernel_rfl) ?_
    exact hj5 (fW .i64 (a1 + 2), 2, 0)
 ·refine oS 18 (b := decide (fW .i64 (a1 + 2) < (a0.length : Int))) (by kernel_rfl) (fun hb => ?_) (fun hb => ?_)
  ·refine oR 2 (p' := (atN 7 (ctl1 g61p2))) (eE := ((20, .int .i64 (fW .i64 (a1 + 2))) :: (19, .str a0) :: (18, .bool true) :: E1)) (H' := (mkH [])) (by kernel_rfl) ?_
   refine oH (fun (x0_7 : Int) => (.int .u8 x0_7, (mkH []))) (atN 8 (ctl1 g61p2)) (fun x0_7 => ((21, .int .u8 x0_7) :: (20, .int .i64 (fW .i64 (a1 + 2))) :: (19, .str a0) :: (18, .bool true) :: E1)) (idxH (by kernel_rfl)) (fun _ => by kernel_rfl) (fun x0_7 hx0_7 => ?_)
   let E34 : Env := ((23, .bool (decide (x0_7 = 123))) :: (22, .bool (decide (x0_7 = 123))) :: (21, .int .u8 x0_7) :: (20, .int .i64 (fW .i64 (a1 + 2))) :: (19, .str a0) :: (18, .bool true) :: E1)
   refine oR 3 (p' := g61p3) (eE := E34) (H' := (mkH [])) (by kernel_rfl) ?_
   refine oK [0, 1, 6, 7, 8, 23] (eE := [(0, .str a0), (1, .int .i64 a1), (6, .int .i64 (fW .i64 (a1 + 2))), (7, .int .i64 2), (8, .int .i64 0), (23, .bool (decide (x0_7 = 123)))]) (by kernel_rfl) ?_
   exact hj4 (decide (x0_7 = 123))
  ·let E35 : Env := ((23, .bool false) :: (22, .tuple []) :: (21, .tuple []) :: (20, .tuple []) :: (19, .tuple []) :: (18, .bool false) :: E1)
   refine oR 6 (p' := g61p3) (eE := E35) (H' := (mkH [])) (by kernel_rfl) ?_
   refine oK [0, 1, 6, 7, 8, 23] (eE := [(0, .str a0), (1, .int .i64 a1), (6, .int .i64 (fW .i64 (a1 + 2))), (7, .int .i64 2), (8, .int .i64 0), (23, .bool false)]) (by kernel_rfl) ?_
   exact hj4 false
end
end Go.Proofs.Ytokcjgjgojlhbaa.Am
set_option maxRecDepth 100000
set_option linter.unusedVariables false
namespace Go.Proofs.Ytokcjgjgojlhbaa.Am
noncomputable section
open Go
def X62 : Fx (Int × Int) := ⟨Try.prog, cx, Try.f62, fun r => .tuple [.int .i64 r.1, .int .i64 r.2], 0, fun _ => H0, cxTi, cxOrd⟩
def g62p0 : Pt := nav [0] (bodyAt Try.f62)
def g62p1 : Pt := nav [0, 0, 0, 0] g62p0
def g62p2 : Pt := nav [0, 0] g62p1
def g62p4 : Pt := nav [2, 0, 0] g62p2
def g62p6 : Pt := nav [0, 0, 0, 0] g62p4
def g62p7 : Pt := nav [0, 0] g62p6
def g62 (k : Nat) (a0 : (List Nat)) (a1 : Int) : Option (Int × Int) :=
 if (decide ((a0.length : Int) ≤ fW .i64 (a1 + 2))) then (some (((-1) : Int), (0 : Int))) else ((nthS a0 (fW .i64 (a1 + 2))).bind fun x0_3 => jn (fun (z1 : Bool) => if z1 then (some (((-1) : Int), (0 : Int))) else (some (fW .i64 (andI .u8 x0_3 31), (3 : Int)))) (fun j1 => if (decide (x0_3 < 64)) then (j1 true) else (if (decide (95 < x0_3)) then (if (decide (x0_3 < 97)) then (j1 true) else (j1 (decide (122 < x0_3)))) else (j1 false))))
theorem g62_ok (k : Nat) (a0 : (List Nat)) (a1 : Int) (r : (Int × Int)) (h : g62 k a0 a1 = some r) : PureOk Try.prog 62 [.str a0, .int .i64 a1] (.tuple [.int .i64 r.1, .int .i64 r.2]) := by
 refine pure_of X62 (fun _ => rfl) Try.func62 (by decide +kernel) (by kernel_rfl) (t := g62 k a0 a1) ?_ h
 unfold g62
 refine oE (eE := [(0, .str a0), (1, .int .i64 a1)]) (by kernel_rfl) ?_
 let E1 : Env := [(11, .bool (decide ((a0.length : Int) ≤ fW .i64 (a1 + 2)))), (10, .int .i64 (a0.length : Int)), (9, .str a0), (8, .int .i64 (fW .i64 (a1 + 2))), (7, .int .i64 a1), (5, .int .i64 0), (4, .int .i64 0), (0, .str a0), (1, .int .i64 a1)]
 refine oR 14 (p' := g62p2) (eE := E1) (H' := (mkH [])) (by kernel_rfl) ?_
 refine oS 11 (b := decide ((a0.length : Int) ≤ fW .i64 (a1 + 2))) (by kernel_rfl) (fun hb => ?_) (fun hb => ?_)
 ·refine oR 7 (p' := .fin) (eE := ((5, .int .i64 0) :: (4, .int .i64 (-1)) :: (11, .bool true) :: E1)) (H' := (mkH [])) (by kernel_rfl) ?_
  exact oT (r := (((-1) : Int), (0 : Int))) (xs := [.int .i64 (-1), .int .i64 0]) (v := .tuple [.int .i64 (-1), .int .i64 0]) (by kernel_rfl) (by kernel_rfl) (by kernel_rfl) (.pures (by kernel_rfl)) (by kernel_rfl)
 ·refine oR 7 (p' := (atN 3 (ctl1 g62p4))) (eE := ((14, .int .i64 (fW .i64 (a1 + 2))) :: (13, .int .i64 a1) :: (12, .str a0) :: (11, .bool false) :: E1)) (H' := (mkH [])) (by kernel_rfl) ?_
  refine oH (fun (x0_3 : Int) => (.int .u8 x0_3, (mkH []))) (atN 4 (ctl1 g62p4)) (fun x0_3 => ((15, .int .u8 x0_3) :: (14, .int .i64 (fW .i64 (a1 + 2))) :: (13, .int .i64 a1) :: (12, .str a0) :: (11, .bool false) :: E1)) (idxH (by kernel_rfl)) (fun _ => by kernel_rfl) (fun x0_3 hx0_3 => ?_)
  let E2 : Env := ((6, .int .u8 x0_3) :: (15, .int .u8 x0_3) :: (14, .int .i64 (fW .i64 (a1 + 2))) :: (13, .int .i64 a1) :: (12, .str a0) :: (11, .bool false) :: E1)
  refine oR 4 (p' := g62p6) (eE := E2) (H' := (mkH [])) (by kernel_rfl) ?_
  refine oK [6] (eE := [(6, .int .u8 x0_3)]) (by kernel_rfl) ?_
  refine oR 4 (p' := (atN 3 (ctl1 g62p6))) (eE := [(18, .bool (decide (x0_3 < 64))), (17, .bool (decide (x0_3 < 64))), (16, .int .u8 x0_3), (6, .int .u8 x0_3)]) (H' := (mkH [])) (by kernel_rfl) ?_
  refine oJ (f := fun (z1 : Bool) => if z1 then (some (((-1) : Int), (0 : Int))) else (some (fW .i64 (andI .u8 x0_3 31), (3 : Int)))) g62p7 (fun (z1 : Bool) => [(6, .int .u8 x0_3), (29, .bool z1)]) (fun (z1 : Bool) => (mkH [])) (fun z1 => ?_) (fun j1 hj1 => ?_)
  ·refine oS 29 (b := z1) (by kernel_rfl) (fun hb => ?_) (fun hb => ?_)
   ·let E3 : Env := [(5, .int .i64 0), (4, .int .i64 (-1)), (29, .bool true), (6, .int .u8 x0_3), (29, .bool z1)]
    refine oR 7 (p' := .fin) (eE := E3) (H' := (mkH [])) (by kernel_rfl) ?_
    exact oT (r := (((-1) : Int), (0 : Int))) (xs := [.int .i64 (-1), .int .i64 0]) (v := .tuple [.int .i64 (-1), .int .i64 0]) (by kernel_rfl) (by kernel_rfl) (by kernel_rfl) (.pures (by kernel_rfl)) (by kernel_rfl)
   ·let E4 : Env := [(5, .int .i64 3), (4, .int .i64 (fW .i64 (andI .u8 x0_3 31))), (32, .int .i64 (fW .i64 (andI .u8 x0_3 31))), (31, .int .u8 (andI .u8 x0_3 31)), (30, .int .u8 x0_3), (29, .bool false), (6, .int .u8 x0_3), (29, .bool z1)]
    refine oR 11 (p' := .fin) (eE := E4) (H' := (mkH [])) (by kernel_rfl) ?_
    exact oT (r := (fW .i64 (andI .u8 x0_3 31), (3 : Int))) (xs := [.int .i64 (fW .i64 (andI .u8 x0_3 31)), .int .i64 3]) (v := .tuple [.int .i64 (fW .i64 (andI .u8 x0_3 31)), .int .i64 3]) (by kernel_rfl) (by kernel_rfl) (by kernel_rfl) (.pures (by kernel_rfl)) (by kernel_rfl)
  ·refine oS 18 (b := decide (x0_3 < 64)) (by kernel_rfl) (fun hb => ?_) (fun hb => ?_)
   ·let E5 : Env := [(29, .bool true), (28, .tuple []), (27, .tuple []), (26, .tuple []), (25, .tuple []), (24, .tuple []), (23, .tuple []), (22, .tuple []), (21, .tuple []), (20, .tuple []), (19, .tuple []), (18, .bool true), (18, .bool (decide (x0_3 < 64))), (17, .bool (decide (x0_3 < 64))), (16, .int .u8 x0_3), (6, .int .u8 x0_3)]
    refine oR 12 (p' := g62p7) (eE := E5) (H' := (mkH [])) (by kernel_rfl) ?_
    refine oK [6, 29] (eE := [(6, .int .u8 x0_3), (29, .bool true)]) (by kernel_rfl) ?_
    exact hj1 true
   ·let E6 : Env := [(21, .bool (decide (95 < x0_3))), (20, .bool (decide (95 < x0_3))), (19, .int .u8 x0_3), (18, .bool false), (18, .bool (decide (x0_3 < 64))), (17, .bool (decide (x0_3 < 64))), (16, .int .u8 x0_3), (6, .int .u8 x0_3)]
    refine oR 3 (p' := (atN 6 (ctl1 g62p6))) (eE := E6) (H' := (mkH [])) (by kernel_rfl) ?_
    refine oS 21 (b := decide (95 < x0_3)) (by kernel_rfl) (fun hb => ?_) (fun hb => ?_)
    ·refine oR 3 (p' := (atN 9 (ctl1 g62p6))) (eE := ((24, .bool (decide (x0_3 < 97))) :: (23, .bool (decide (x0_3 < 97))) :: (22, .int .u8 x0_3) :: (21, .bool true) :: E6)) (H' := (mkH [])) (by kernel_rfl) ?_
     refine oS 24 (b := decide (x0_3 < 97)) (by kernel_rfl) (fun hb => ?_) (fun hb => ?_)
     ·let E7 : Env := ((29, .bool true) :: (28, .bool true) :: (27, .bool true) :: (26, .tuple []) :: (25, .tuple []) :: (24, .bool true) :: (24, .bool (decide (x0_3 < 97))) :: (23, .bool (decide (x0_3 < 97))) :: (22, .int .u8 x0_3) :: (21, .bool true) :: E6)
      refine oR 6 (p' := g62p7) (eE := E7) (H' := (mkH [])) (by kernel_rfl) ?_
      refine oK [6, 29] (eE := [(6, .int .u8 x0_3), (29, .bool true)]) (by kernel_rfl) ?_
      exact hj1 true
     ·let E8 : Env := ((29, .bool (decide (122 < x0_3))) :: (28, .bool (decide (122 < x0_3))) :: (27, .bool (decide (122 < x0_3))) :: (26, .bool (decide (122 < x0_3))) :: (25, .int .u8 x0_3) :: (24, .bool false) :: (24, .bool (decide (x0_3 < 97))) :: (23, .bool (decide (x0_3 < 97))) :: (22, .int .u8 x0_3) :: (21, .bool true) :: E6)
      refine oR 6 (p' := g62p7) (eE := E8) (H' := (mkH [])) (by kernel_rfl) ?_
      refine oK [6, 29] (eE := [(6, .int .u8 x0_3), (29, .bool (decide (122 < x0_3)))]) (by kernel_rfl) ?_
      exact hj1 (decide (122 < x0_3))
    ·let E9 : Env := ((29, .bool false) :: (28, .bool false) :: (27, .tuple []) :: (26, .tuple []) :: (25, .tuple []) :: (24, .tuple []) :: (23, .tuple []) :: (22, .tuple []) :: (21, .bool false) :: E6)
     refine oR 9 (p' := g62p7) (eE := E9) (H' := (mkH [])) (by kernel_rfl) ?_
     refine oK [6, 29] (eE := [(6, .int .u8 x0_3), (29, .bool false)]) (by kernel_rfl) ?_
     exact hj1 false
end
end Go.Proofs.Ytokcjgjgojlhbaa.Am
set_option maxRecDepth 100000
set_option linter.unusedVariables false
namespace Go.Proofs.Ytokcjgjgojlhbaa.Am
noncomputable section
open Go
def X52 : Fx (Int × Int) := ⟨Try.prog, cx, Try.f52, fun r => .tuple [.int .i64 r.1, .int .i64 r.2], 0, fun _ => H0, cxTi, cxOrd⟩
def g52p0 : Pt := nav [0] (bodyAt Try.f52)
def g52p1 : Pt := nav [0, 0, 0, 0] g52p0
def g52p2 : Pt := nav [0, 0] g52p1
def g52p4 : Pt := nav [2, 0, 0] g52p2
def g52p6 : Pt := nav [0, 0, 0, 0, 0] g52p4
def g52p7 : Pt := nav [0, 0] g52p6
def g52p8 : Pt := nav [1, 0] g52p7
def g52p9 : Pt := nav [2, 0] g52p7
def g52p10 : Pt := nav [0, 0] g52p9
def g52p11 : Pt := nav [1, 0] g52p10
def g52p12 : Pt := nav [2, 0] g52p10
def g52p13 : Pt := nav [0, 0] g52p12
def g52p14 : Pt := nav [1, 0] g52p13
def g52p15 : Pt := nav [2, 0, 0, 0] g52p13
def g52p16 : Pt := nav [0, 0, 0, 0, 0] g52p14
def g52p17 : Pt := nav [0, 0, 0, 0] g52p15
def g52p18 : Pt := nav [0, 0, 0] g52p16
def g52p19 : Pt := nav [0, 0] g52p17
def g52p20 : Pt := nav [0, 0] g52p18
def g52p21 : Pt := nav [0, 0, 0] g52p19
def g52p22 : Pt := nav [1, 0, 0, 0] g52p20
def g52p24 : Pt := nav [1, 0, 0, 0] g52p21
def g52p25 : Pt := nav [2, 0, 0] g52p21
def g52p26 : Pt := nav [0, 0] g52p22
def g52p27 : Pt := nav [0, 0, 0] g52p24
def g52p28 : Pt := nav [0, 0, 0, 0] g52p25
def g52p29 : Pt := nav [0, 0] g52p27
def g52p30 : Pt := nav [0, 0] g52p28
def g52_l9 (k : Nat)  (a0 : (List Nat)) (a1 : Int) (n : Nat) : Int → Int → Option (Int × Int) :=
 Nat.rec (motive := fun _ => Int → Int → Option (Int × Int)) (fun _ _ => none) (fun _ ih => fun (y9_0 : Int) (y9_1 : Int) => jn (fun (z10 : Bool × Int × Int) => if z10.1 then ((nthS a0 (fW .i64 (a1 + z10.2.1))).bind fun x6_6 => (g63 k x6_6).bind fun x6_7 => ih (orI .i64 (shlC .i64 z10.2.2 3) x6_7) (fW .i64 (z10.2.1 + 1))) else (some (z10.2.2, z10.2.1))) (fun j10 => if (decide (y9_1 < 4)) then (if (decide (fW .i64 (a1 + y9_1) < (a0.length : Int))) then ((nthS a0 (fW .i64 (a1 + y9_1))).bind fun x5_15 => (g63 k x5_15).bind fun x5_16 => j10 (decide (x5_16 < 8), y9_1, y9_0)) else (j10 (false, y9_1, y9_0))) else (j10 (false, y9_1, y9_0)))) n
theorem g52_l9_s (k : Nat)  (a0 : (List Nat)) (a1 : Int) (n : Nat) (y9_0 : Int) (y9_1 : Int) : g52_l9 k a0 a1 (n + 1) y9_0 y9_1 = (jn (fun (z10 : Bool × Int × Int) => if z10.1 then ((nthS a0 (fW .i64 (a1 + z10.2.1))).bind fun x6_6 => (g63 k x6_6).bind fun x6_7 => (g52_l9 k a0 a1 n) (orI .i64 (shlC .i64 z10.2.2 3) x6_7) (fW .i64 (z10.2.1 + 1))) else (some (z10.2.2, z10.2.1))) (fun j10 => if (decide (y9_1 < 4)) then (if (decide (fW .i64 (a1 + y9_1) < (a0.length : Int))) then ((nthS a0 (fW .i64 (a1 + y9_1))).bind fun x5_15 => (g63 k x5_15).bind fun x5_16 => j10 (decide (x5_16 < 8), y9_1, y9_0)) else (j10 (false, y9_1, y9_0))) else (j10 (false, y9_1, y9_0)))) := rfl
theorem g52_l9_ok (k : Nat)  (a0 : (List Nat)) (a1 : Int)  : ∀ (n : Nat) (y9_0 : Int) (y9_1 : Int), Ok X52 g52p16 [(0, .str a0), (1, .int .i64 a1), (7, .int .i64 y9_0), (8, .int .i64 y9_1)] (mkH []) (g52_l9 k a0 a1 n y9_0 y9_1)
 | 0, _, _ => ok_none
 | n + 1, y9_0, y9_1 => by
  have ih := g52_l9_ok k a0 a1 n
  rw [g52_l9_s]
  refine ok_ent (p' := nav [0] g52p16) (by kernel_rfl) ?_
  let E10 : Env := [(63, .bool (decide (y9_1 < 4))), (62, .bool (decide (y9_1 < 4))), (61, .int .i64 y9_1), (0, .str a0), (1, .int .i64 a1), (7, .int .i64 y9_0), (8, .int .i64 y9_1)]
  refine oR 6 (p' := (atN 3 (ctl1 g52p18))) (eE := E10) (H' := (mkH [])) (by kernel_rfl) ?_
  refine oJ (f := fun (z10 : Bool × Int × Int) => if z10.1 then ((nthS a0 (fW .i64 (a1 + z10.2.1))).bind fun x6_6 => (g63 k x6_6).bind fun x6_7 => (g52_l9 k a0 a1 n) (orI .i64 (shlC .i64 z10.2.2 3) x6_7) (fW .i64 (z10.2.1 + 1))) else (some (z10.2.2, z10.2.1))) g52p20 (fun (z10 : Bool × Int × Int) => [(0, .str a0), (1, .int .i64 a1), (7, .int .i64 z10.2.2), (8, .int .i64 z10.2.1), (79, .bool z10.1)]) (fun (z10 : Bool × Int × Int) => (mkH [])) (fun z10 => ?_) (fun j10 hj10 => ?_)
  ·refine oS 79 (b := z10.1) (by kernel_rfl) (fun hb => ?_) (fun hb => ?_)
   ·let E11 : Env := [(85, .int .i64 (fW .i64 (a1 + z10.2.1))), (84, .int .i64 z10.2.1), (83, .int .i64 a1), (82, .str a0), (81, .int .i64 (shlC .i64 z10.2.2 3)), (80, .int .i64 z10.2.2), (79, .bool true), (0, .str a0), (1, .int .i64 a1), (7, .int .i64 z10.2.2), (8, .int .i64 z10.2.1), (79, .bool z10.1)]
    refine oR 11 (p' := (atN 6 (ctl1 g52p22))) (eE := E11) (H' := (mkH [])) (by kernel_rfl) ?_
    refine oH (fun (x6_6 : Int) => (.int .u8 x6_6, (mkH []))) (atN 7 (ctl1 g52p22)) (fun x6_6 => ((86, .int .u8 x6_6) :: E11)) (idxH (by kernel_rfl)) (fun _ => by kernel_rfl) (fun x6_6 hx6_6 => ?_)
    refine oC (fun (x6_7 : Int) => .int .i64 x6_7) (atN 8 (ctl1 g52p22)) (fun x6_7 => ((87, .int .i64 x6_7) :: (86, .int .u8 x6_6) :: E11)) (fi := 63) (args := [.int .u8 x6_6]) (by kernel_rfl) (by kernel_rfl) (fun _ => by kernel_rfl) (fun r h => g63_ok k x6_6 r h) (fun _ => by kernel_rfl) (fun x6_7 hx6_7 => ?_)
    refine oR 3 (p' := g52p26) (eE := ((7, .int .i64 (orI .i64 (shlC .i64 z10.2.2 3) x6_7)) :: (88, .int .i64 (orI .i64 (shlC .i64 z10.2.2 3) x6_7)) :: (87, .int .i64 x6_7) :: (86, .int .u8 x6_6) :: E11)) (H' := (mkH [])) (by kernel_rfl) ?_
    refine oK [0, 1, 7, 8] (eE := [(0, .str a0), (1, .int .i64 a1), (7, .int .i64 (orI .i64 (shlC .i64 z10.2.2 3) x6_7)), (8, .int .i64 z10.2.1)]) (by kernel_rfl) ?_
    let E12 : Env := [(8, .int .i64 (fW .i64 (z10.2.1 + 1))), (90, .int .i64 (fW .i64 (z10.2.1 + 1))), (89, .int .i64 z10.2.1), (0, .str a0), (1, .int .i64 a1), (7, .int .i64 (orI .i64 (shlC .i64 z10.2.2 3) x6_7)), (8, .int .i64 z10.2.1)]
    refine oR 5 (p' := g52p16) (eE := E12) (H' := (mkH [])) (by kernel_rfl) ?_
    refine oK [0, 1, 7, 8] (eE := [(0, .str a0), (1, .int .i64 a1), (7, .int .i64 (orI .i64 (shlC .i64 z10.2.2 3) x6_7)), (8, .int .i64 (fW .i64 (z10.2.1 + 1)))]) (by kernel_rfl) ?_
    exact ih (orI .i64 (shlC .i64 z10.2.2 3) x6_7) (fW .i64 (z10.2.1 + 1))
   ·let E13 : Env := [(5, .int .i64 z10.2.1), (4, .int .i64 z10.2.2), (92, .int .i64 z10.2.1), (91, .int .i64 z10.2.2), (79, .bool false), (0, .str a0), (1, .int .i64 a1), (7, .int .i64 z10.2.2), (8, .int .i64 z10.2.1), (79, .bool z10.1)]
    refine oR 10 (p' := .fin) (eE := E13) (H' := (mkH [])) (by kernel_rfl) ?_
    exact oT (r := (z10.2.2, z10.2.1)) (xs := [.int .i64 z10.2.2, .int .i64 z10.2.1]) (v := .tuple [.int .i64 z10.2.2, .int .i64 z10.2.1]) (by kernel_rfl) (by kernel_rfl) (by kernel_rfl) (.pures (by kernel_rfl)) (by kernel_rfl)
  ·refine oS 63 (b := decide (y9_1 < 4)) (by kernel_rfl) (fun hb => ?_) (fun hb => ?_)
   ·let E14 : Env := ((71, .bool (decide (fW .i64 (a1 + y9_1) < (a0.length : Int)))) :: (70, .bool (decide (fW .i64 (a1 + y9_1) < (a0.length : Int)))) :: (69, .bool (decide (fW .i64 (a1 + y9_1) < (a0.length : Int)))) :: (68, .int .i64 (a0.length : Int)) :: (67, .str a0) :: (66, .int .i64 (fW .i64 (a1 + y9_1))) :: (65, .int .i64 y9_1) :: (64, .int .i64 a1) :: (63, .bool true) :: E10)
    refine oR 8 (p' := (atN 11 (ctl1 g52p18))) (eE := E14) (H' := (mkH [])) (by kernel_rfl) ?_
    refine oS 71 (b := decide (fW .i64 (a1 + y9_1) < (a0.length : Int))) (by kernel_rfl) (fun hb => ?_) (fun hb => ?_)
    ·let E15 : Env := ((75, .int .i64 (fW .i64 (a1 + y9_1))) :: (74, .int .i64 y9_1) :: (73, .int .i64 a1) :: (72, .str a0) :: (71, .bool true) :: E14)
     refine oR 4 (p' := (atN 15 (ctl1 g52p18))) (eE := E15) (H' := (mkH [])) (by kernel_rfl) ?_
     refine oH (fun (x5_15 : Int) => (.int .u8 x5_15, (mkH []))) (atN 16 (ctl1 g52p18)) (fun x5_15 => ((76, .int .u8 x5_15) :: E15)) (idxH (by kernel_rfl)) (fun _ => by kernel_rfl) (fun x5_15 hx5_15 => ?_)
     refine oC (fun (x5_16 : Int) => .int .i64 x5_16) (atN 17 (ctl1 g52p18)) (fun x5_16 => ((77, .int .i64 x5_16) :: (76, .int .u8 x5_15) :: E15)) (fi := 63) (args := [.int .u8 x5_15]) (by kernel_rfl) (by kernel_rfl) (fun _ => by kernel_rfl) (fun r h => g63_ok k x5_15 r h) (fun _ => by kernel_rfl) (fun x5_16 hx5_16 => ?_)
     refine oR 3 (p' := g52p20) (eE := ((79, .bool (decide (x5_16 < 8))) :: (78, .bool (decide (x5_16 < 8))) :: (77, .int .i64 x5_16) :: (76, .int .u8 x5_15) :: E15)) (H' := (mkH [])) (by kernel_rfl) ?_
     refine oK [0, 1, 7, 8, 79] (eE := [(0, .str a0), (1, .int .i64 a1), (7, .int .i64 y9_0), (8, .int .i64 y9_1), (79, .bool (decide (x5_16 < 8)))]) (by kernel_rfl) ?_
     exact hj10 (decide (x5_16 < 8), y9_1, y9_0)
    ·let E16 : Env := ((79, .bool false) :: (78, .tuple []) :: (77, .tuple []) :: (76, .tuple []) :: (75, .tuple []) :: (74, .tuple []) :: (73, .tuple []) :: (72, .tuple []) :: (71, .bool false) :: E14)
     refine oR 9 (p' := g52p20) (eE := E16) (H' := (mkH [])) (by kernel_rfl) ?_
     refine oK [0, 1, 7, 8, 79] (eE := [(0, .str a0), (1, .int .i64 a1), (7, .int .i64 y9_0), (8, .int .i64 y9_1), (79, .bool false)]) (by kernel_rfl) ?_
     exact hj10 (false, y9_1, y9_0)
   ·let E17 : Env := ((79, .bool false) :: (78, .tuple []) :: (77, .tuple []) :: (76, .tuple []) :: (75, .tuple []) :: (74, .tuple []) :: (73, .tuple []) :: (72, .tuple []) :: (71, .bool false) :: (70, .bool false) :: (69, .tuple []) :: (68, .tuple []) :: (67, .tuple []) :: (66, .tuple []) :: (65, .tuple []) :: (64, .tuple []) :: (63, .bool false) :: E10)
    refine oR 17 (p' := g52p20) (eE := E17) (H' := (mkH [])) (by kernel_rfl) ?_
    refine oK [0, 1, 7, 8, 79] (eE := [(0, .str a0), (1, .int .i64 a1), (7, .int .i64 y9_0), (8, .int .i64 y9_1), (79, .bool false)]) (by kernel_rfl) ?_
    exact hj10 (false, y9_1, y9_0)
def g52 (k : Nat) (a0 : (List Nat)) (a1 : Int) : Option (Int × Int) :=
 jn (fun (z7 : Bool) => if z7 then (some (((-1) : Int), (0 : Int))) else ((nthS a0 (fW .i64 (a1 + 1))).bind fun x1_3 => if (decide (x1_3 = 120)) then ((g61 k a0 a1).bind fun x2_2 => some (x2_2.1, x2_2.2)) else (if (decide (x1_3 = 94)) then ((g62 k a0 a1).bind fun x3_2 => some (x3_2.1, x3_2.2)) else (jn (fun (z8 : Bool) => if z8 then (g52_l9 k a0 a1 k 0 1) else (if (decide (x1_3 = 98)) then (some ((8 : Int), (2 : Int))) else (if (decide (x1_3 = 100)) then (some ((127 : Int), (2 : Int))) else (if (decide (x1_3 = 101)) then (some ((27 : Int), (2 : Int))) else (if (decide (x1_3 = 102)) then (some ((12 : Int), (2 : Int))) else (if (decide (x1_3 = 110)) then (some ((10 : Int), (2 : Int))) else (if (decide (x1_3 = 114)) then (some ((13 : Int), (2 : Int))) else (if (decide (x1_3 = 115)) then (some ((32 : Int), (2 : Int))) else (if (decide (x1_3 = 116)) then (some ((9 : Int), (2 : Int))) else (if (decide (x1_3 = 118)) then (some ((11 : Int), (2 : Int))) else ((g31 k a0 (fW .i64 (a1 + 1))).bind fun x4_3 => if (decide (x4_3.1 < 32)) then (some (((-1) : Int), (0 : Int))) else (some (x4_3.1, fW .i64 (x4_3.2 + 1)))))))))))))) (fun j8 => if (decide (48 ≤ x1_3)) then (j8 (decide (x1_3 ≤ 55))) else (j8 false)))))) (fun j7 => if (decide (a1 < 0)) then (j7 true) else (if (decide ((a0.length : Int) ≤ a1)) then (j7 true) else ((nthS a0 a1).bind fun x0_11 => if (!decide (x0_11 = 92)) then (j7 true) else (j7 (decide ((a0.length : Int) ≤ fW .i64 (a1 + 1)))))))
theorem g52_ok (k : Nat) (a0 : (List Nat)) (a1 : Int) (r : (Int × Int)) (h : g52 k a0 a1 = some r) : PureOk Try.prog 52 [.str a0, .int .i64 a1] (.tuple [.int .i64 r.1, .int .i64 r.2]) := by
 refine pure_of X52 (fun _ => rfl) Try.func52 (by decide +kernel) (by kernel_rfl) (t := g52 k a0 a1) ?_ h
 unfold g52
 refine oE (eE := [(0, .str a0), (1, .int .i64 a1)]) (by kernel_rfl) ?_
 let E1 : Env := [(15, .bool (decide (a1 < 0))), (14, .bool (decide (a1 < 0))), (13, .int .i64 a1), (5, .int .i64 0), (4, .int .i64 0), (0, .str a0), (1, .int .i64 a1)]
 refine oR 11 (p' := (atN 3 (ctl1 g52p1))) (eE := E1) (H' := (mkH [])) (by kernel_rfl) ?_
 refine oJ (f := fun (z7 : Bool) => if z7 then (some (((-1) : Int), (0 : Int))) else ((nthS a0 (fW .i64 (a1 + 1))).bind fun x1_3 => if (decide (x1_3 = 120)) then ((g61 k a0 a1).bind fun x2_2 => some (x2_2.1, x2_2.2)) else (if (decide (x1_3 = 94)) then ((g62 k a0 a1).bind fun x3_2 => some (x3_2.1, x3_2.2)) else (jn (fun (z8 : Bool) => if z8 then (g52_l9 k a0 a1 k 0 1) else (if (decide (x1_3 = 98)) then (some ((8 : Int), (2 : Int))) else (if (decide (x1_3 = 100)) then (some ((127 : Int), (2 : Int))) else (if (decide (x1_3 = 101)) then (some ((27 : Int), (2 : Int))) else (if (decide (x1_3 = 102)) then (some ((12 : Int), (2 : Int))) else (if (decide (x1_3 = 110)) then (some ((10 : Int), (2 : Int))) else (if (decide (x1_3 = 114)) then (some ((13 : Int), (2 : Int))) else (if (decide (x1_3 = 115)) then (some ((32 : Int), (2 : Int))) else (if (decide (x1_3 = 116)) then (some ((9 : Int), (2 : Int))) else (if (decide (x1_3 = 118)) then (some ((11 : Int), (2 : Int))) else ((g31 k a0 (fW .i64 (a1 + 1))).bind fun x4_3 => if (decide (x4_3.1 < 32)) then (some (((-1) : Int), (0 : Int))) else (some (x4_3.1, fW .i64 (x4_3.2 + 1)))))))))))))) (fun j8 => if (decide (48 ≤ x1_3)) then (j8 (decide (x1_3 ≤ 55))) else (j8 false)))))) g52p2 (fun (z7 : Bool) => [(0, .str a0), (1, .int .i64 a1), (33, .bool z7)]) (fun (z7 : Bool) => (mkH [])) (fun z7 => ?_) (fun j7 hj7 => ?_)
 ·refine oS 33 (b := z7) (by kernel_rfl) (fun hb => ?_) (fun hb => ?_)
  ·let E2 : Env := [(5, .int .i64 0), (4, .int .i64 (-1)), (33, .bool true), (0, .str a0), (1, .int .i64 a1), (33, .bool z7)]
   refine oR 7 (p' := .fin) (eE := E2) (H' := (mkH [])) (by kernel_rfl) ?_
   exact oT (r := (((-1) : Int), (0 : Int))) (xs := [.int .i64 (-1), .int .i64 0]) (v := .tuple [.int .i64 (-1), .int .i64 0]) (by kernel_rfl) (by kernel_rfl) (by kernel_rfl) (.pures (by kernel_rfl)) (by kernel_rfl)
  ·let E3 : Env := [(36, .int .i64 (fW .i64 (a1 + 1))), (35, .int .i64 a1), (34, .str a0), (33, .bool false), (0, .str a0), (1, .int .i64 a1), (33, .bool z7)]
   refine oR 7 (p' := (atN 3 (ctl1 g52p4))) (eE := E3) (H' := (mkH [])) (by kernel_rfl) ?_
   refine oH (fun (x1_3 : Int) => (.int .u8 x1_3, (mkH []))) (atN 4 (ctl1 g52p4)) (fun x1_3 => ((37, .int .u8 x1_3) :: E3)) (idxH (by kernel_rfl)) (fun _ => by kernel_rfl) (fun x1_3 hx1_3 => ?_)
   let E4 : Env := ((38, .bool (decide (x1_3 = 120))) :: (40, .bool (decide (x1_3 = 120))) :: (39, .int .u8 x1_3) :: (6, .int .u8 x1_3) :: (37, .int .u8 x1_3) :: E3)
   refine oR 10 (p' := g52p7) (eE := E4) (H' := (mkH [])) (by kernel_rfl) ?_
   refine oK [0, 1, 6, 38] (eE := [(0, .str a0), (1, .int .i64 a1), (6, .int .u8 x1_3), (38, .bool (decide (x1_3 = 120)))]) (by kernel_rfl) ?_
   refine oS 38 (b := decide (x1_3 = 120)) (by kernel_rfl) (fun hb => ?_) (fun hb => ?_)
   ·let E5 : Env := [(42, .int .i64 a1), (41, .str a0), (38, .bool true), (0, .str a0), (1, .int .i64 a1), (6, .int .u8 x1_3), (38, .bool (decide (x1_3 = 120)))]
    refine oR 5 (p' := (atN 2 (ctl1 g52p8))) (eE := E5) (H' := (mkH [])) (by kernel_rfl) ?_
    refine oC (fun (x2_2 : (Int × Int)) => .tuple [.int .i64 x2_2.1, .int .i64 x2_2.2]) (atN 3 (ctl1 g52p8)) (fun x2_2 => ((43, .tuple [.int .i64 x2_2.1, .int .i64 x2_2.2]) :: E5)) (fi := 61) (args := [.str a0, .int .i64 a1]) (by kernel_rfl) (by kernel_rfl) (fun _ => by kernel_rfl) (fun r h => g61_ok k a0 a1 r h) (fun _ => by kernel_rfl) (fun x2_2 hx2_2 => ?_)
    let E6 : Env := ((5, .int .i64 x2_2.2) :: (4, .int .i64 x2_2.1) :: (45, .int .i64 x2_2.2) :: (44, .int .i64 x2_2.1) :: (43, .tuple [.int .i64 x2_2.1, .int .i64 x2_2.2]) :: E5)
    refine oR 6 (p' := .fin) (eE := E6) (H' := (mkH [])) (by kernel_rfl) ?_
    exact oT (r := (x2_2.1, x2_2.2)) (xs := [.int .i64 x2_2.1, .int .i64 x2_2.2]) (v := .tuple [.int .i64 x2_2.1, .int .i64 x2_2.2]) (by kernel_rfl) (by kernel_rfl) (by kernel_rfl) (.pures (by kernel_rfl)) (by kernel_rfl)
   ·let E7 : Env := [(46, .bool (decide (x1_3 = 94))), (48, .bool (decide (x1_3 = 94))), (47, .int .u8 x1_3), (38, .bool false), (0, .str a0), (1, .int .i64 a1), (6, .int .u8 x1_3), (38, .bool (decide (x1_3 = 120)))]
    refine oR 7 (p' := g52p10) (eE := E7) (H' := (mkH [])) (by kernel_rfl) ?_
    refine oS 46 (b := decide (x1_3 = 94)) (by kernel_rfl) (fun hb => ?_) (fun hb => ?_)
    ·refine oR 5 (p' := (atN 2 (ctl1 g52p11))) (eE := ((50, .int .i64 a1) :: (49, .str a0) :: (46, .bool true) :: E7)) (H' := (mkH [])) (by kernel_rfl) ?_
     refine oC (fun (x3_2 : (Int × Int)) => .tuple [.int .i64 x3_2.1, .int .i64 x3_2.2]) (atN 3 (ctl1 g52p11)) (fun x3_2 => ((51, .tuple [.int .i64 x3_2.1, .int .i64 x3_2.2]) :: (50, .int .i64 a1) :: (49, .str a0) :: (46, .bool true) :: E7)) (fi := 62) (args := [.str a0, .int .i64 a1]) (by kernel_rfl) (by kernel_rfl) (fun _ => by kernel_rfl) (fun r h => g62_ok k a0 a1 r h) (fun _ => by kernel_rfl) (fun x3_2 hx3_2 => ?_)
     let E8 : Env := ((5, .int .i64 x3_2.2) :: (4, .int .i64 x3_2.1) :: (53, .int .i64 x3_2.2) :: (52, .int .i64 x3_2.1) :: (51, .tuple [.int .i64 x3_2.1, .int .i64 x3_2.2]) :: (50, .int .i64 a1) :: (49, .str a0) :: (46, .bool true) :: E7)
     refine oR 6 (p' := .fin) (eE := E8) (H' := (mkH [])) (by kernel_rfl) ?_
     exact oT (r := (x3_2.1, x3_2.2)) (xs := [.int .i64 x3_2.1, .int .i64 x3_2.2]) (v := .tuple [.int .i64 x3_2.1, .int .i64 x3_2.2]) (by kernel_rfl) (by kernel_rfl) (by kernel_rfl) (.pures (by kernel_rfl)) (by kernel_rfl)
    ·refine oR 6 (p' := (atN 3 (ctl1 g52p12))) (eE := ((57, .bool (decide (48 ≤ x1_3))) :: (56, .bool (decide (48 ≤ x1_3))) :: (55, .int .u8 x1_3) :: (46, .bool false) :: E7)) (H' := (mkH [])) (by kernel_rfl) ?_
     refine oJ (f := fun (z8 : Bool) => if z8 then (g52_l9 k a0 a1 k 0 1) else (if (decide (x1_3 = 98)) then (some ((8 : Int), (2 : Int))) else (if (decide (x1_3 = 100)) then (some ((127 : Int), (2 : Int))) else (if (decide (x1_3 = 101)) then (some ((27 : Int), (2 : Int))) else (if (decide (x1_3 = 102)) then (some ((12 : Int), (2 : Int))) else (if (decide (x1_3 = 110)) then (some ((10 : Int), (2 : Int))) else (if (decide (x1_3 = 114)) then (some ((13 : Int), (2 : Int))) else (if (decide (x1_3 = 115)) then (some ((32 : Int), (2 : Int))) else (if (decide (x1_3 = 116)) then (some ((9 : Int), (2 : Int))) else (if (decide (x1_3 = 118)) then (some ((11 : Int), (2 : Int))) else ((g31 k a0 (fW .i64 (a1 + 1))).bind fun x4_3 => if (decide (x4_3.1 < 32)) then (some (((-1) : Int), (0 : Int))) else (some (x4_3.1, fW .i64 (x4_3.2 + 1)))))))))))))) g52p13 (fun (z8 : Bool) => [(0, .str a0), (1, .int .i64 a1), (6, .int .u8 x1_3), (54, .bool z8)]) (fun (z8 : Bool) => (mkH [])) (fun z8 => ?_) (fun j8 hj8 => ?_)
     ·refine oS 54 (b := z8) (by kernel_rfl) (fun hb => ?_) (fun hb => ?_)
      ·let E9 : Env := [(8, .int .i64 1), (7, .int .i64 0), (54, .bool true), (0, .str a0), (1, .int .i64 a1), (6, .int .u8 x1_3), (54, .bool z8)]
       refine oR 9 (p' := g52p16) (eE := E9) (H' := (mkH [])) (by kernel_rfl) ?_
       refine oK [0, 1, 7, 8] (eE := [(0, .str a0), (1, .int .i64 a1), (7, .int .i64 0), (8, .int .i64 1)]) (by kernel_rfl) ?_
       exact (g52_l9_ok k a0 a1 k) 0 1
      ·let E18 : Env := [(54, .bool false), (0, .str a0), (1, .int .i64 a1), (6, .int .u8 x1_3), (54, .bool z8)]
       refine oR 5 (p' := (atN 0 (ctl1 g52p15))) (eE := E18) (H' := (mkH [])) (by kernel_rfl) ?_
       refine ok_range 93 (⟨#[98, 100, 101, 102, 110, 114, 115, 116, 118]⟩ : ByteArray) (by kernel_rfl) ?_
       refine okI_at (p' := (atN 1 (ctl1 g52p15))) (by kernel_rfl) ?_
       refine oI 3 (p' := g52p17) (eE := ((93, .top) :: E18)) (H' := (mkH [])) (by kernel_rfl) ?_
       refine okI_ent (p' := nav [0] g52p17) (by kernel_rfl) ?_
       refine oI 2 (p' := (atN 0 (ctl1 g52p19))) (eE := ((93, .top) :: E18)) (H' := (mkH [])) (by kernel_rfl) ?_
       refine okI_next 94 (by kernel_rfl) rfl 98 1 (by kernel_rfl) ?_
       refine okI_at (p' := (atN 1 (ctl1 g52p19))) (by kernel_rfl) ?_
       let E19 : Env := ((101, .bool (decide (x1_3 = 98))) :: (100, .int .u8 98) :: (99, .int .i32 98) :: (98, .int .u8 x1_3) :: (10, .int .i32 98) :: (9, .int .i64 0) :: (97, .int .i32 98) :: (96, .int .i64 0) :: (95, .bool true) :: (94, .tuple [.bool true, .int .i64 0, .int .i32 98]) :: (93, .top) :: E18)
       refine oI 20 (p' := g52p29) (eE := E19) (H' := (mkH [])) (by kernel_rfl) ?_
       refine okI_split 101 (b := decide (x1_3 = 98)) (by kernel_rfl) (fun hb => ?_) (fun hb => ?_)
       ·let E20 : Env := ((5, .int .i64 2) :: (4, .int .i64 8) :: (104, .int .i64 8) :: (103, .int .i64 0) :: (102, .agg [.int .i64 8, .int .i64 127, .int .i64 27, .int .i64 12, .int .i64 10, .int .i64 13, .int .i64 32, .int .i64 9, .int .i64 11]) :: (101, .bool true) :: E19)
        refine oI 10 (p' := .fin) (eE := E20) (H' := (mkH [])) (by kernel_rfl) ?_
        refine okI_drop ?_
        exact oT (r := ((8 : Int), (2 : Int))) (xs := [.int .i64 8, .int .i64 2]) (v := .tuple [.int .i64 8, .int .i64 2]) (by kernel_rfl) (by kernel_rfl) (by kernel_rfl) (.pures (by kernel_rfl)) (by kernel_rfl)
       ·refine oI 2 (p' := g52p17) (eE := ((101, .bool false) :: E19)) (H' := (mkH [])) (by kernel_rfl) ?_
        refine okI_ent (p' := nav [0] g52p17) (by kernel_rfl) ?_
        refine oI 2 (p' := (atN 0 (ctl1 g52p19))) (eE := ((101, .bool false) :: E19)) (H' := (mkH [])) (by kernel_rfl) ?_
        refine okI_next 94 (by kernel_rfl) rfl 100 1 (by kernel_rfl) ?_
        refine okI_at (p' := (atN 1 (ctl1 g52p19))) (by kernel_rfl) ?_
        let E21 : Env := ((101, .bool (decide (x1_3 = 100))) :: (100, .int .u8 100) :: (99, .int .i32 100) :: (98, .int .u8 x1_3) :: (10, .int .i32 100) :: (9, .int .i64 1) :: (97, .int .i32 100) :: (96, .int .i64 1) :: (95, .bool true) :: (94, .tuple [.bool true, .int .i64 1, .int .i32 100]) :: (101, .bool false) :: E19)
        refine oI 20 (p' := g52p29) (eE := E21) (H' := (mkH [])) (by kernel_rfl) ?_
        refine okI_split 101 (b := decide (x1_3 = 100)) (by kernel_rfl) (fun hb => ?_) (fun hb => ?_)
        ·let E22 : Env := ((5, .int .i64 2) :: (4, .int .i64 127) :: (104, .int .i64 127) :: (103, .int .i64 1) :: (102, .agg [.int .i64 8, .int .i64 127, .int .i64 27, .int .i64 12, .int .i64 10, .int .i64 13, .int .i64 32, .int .i64 9, .int .i64 11]) :: (101, .bool true) :: E21)
         refine oI 10 (p' := .fin) (eE := E22) (H' := (mkH [])) (by kernel_rfl) ?_
         refine okI_drop ?_
         exact oT (r := ((127 : Int), (2 : Int))) (xs := [.int .i64 127, .int .i64 2]) (v := .tuple [.int .i64 127, .int .i64 2]) (by kernel_rfl) (by kernel_rfl) (by kernel_rfl) (.pures (by kernel_rfl)) (by kernel_rfl)
        ·refine oI 2 (p' := g52p17) (eE := ((101, .bool false) :: E21)) (H' := (mkH [])) (by kernel_rfl) ?_
         refine okI_ent (p' := nav [0] g52p17) (by kernel_rfl) ?_
         refine oI 2 (p' := (atN 0 (ctl1 g52p19))) (eE := ((101, .bool false) :: E21)) (H' := (mkH [])) (by kernel_rfl) ?_
         refine okI_next 94 (by kernel_rfl) rfl 101 1 (by kernel_rfl) ?_
         refine okI_at (p' := (atN 1 (ctl1 g52p19))) (by kernel_rfl) ?_
         let E23 : Env := ((101, .bool (decide (x1_3 = 101))) :: (100, .int .u8 101) :: (99, .int .i32 101) :: (98, .int .u8 x1_3) :: (10, .int .i32 101) :: (9, .int .i64 2) :: (97, .int .i32 101) :: (96, .int .i64 2) :: (95, .bool true) :: (94, .tuple [.bool true, .int .i64 2, .int .i32 101]) :: (101, .bool false) :: E21)
         refine oI 20 (p' := g52p29) (eE := E23) (H' := (mkH [])) (by kernel_rfl) ?_
         refine okI_split 101 (b := decide (x1_3 = 101)) (by kernel_rfl) (fun hb => ?_) (fun hb => ?_)
         ·let E24 : Env := ((5, .int .i64 2) :: (4, .int .i64 27) :: (104, .int .i64 27) :: (103, .int .i64 2) :: (102, .agg [.int .i64 8, .int .i64 127, .int .i64 27, .int .i64 12, .int .i64 10, .int .i64 13, .int .i64 32, .int .i64 9, .int .i64 11]) :: (101, .bool true) :: E23)
          refine oI 10 (p' := .fin) (eE := E24) (H' := (mkH [])) (by kernel_rfl) ?_
          refine okI_drop ?_
          exact oT (r := ((27 : Int), (2 : Int))) (xs := [.int .i64 27, .int .i64 2]) (v := .tuple [.int .i64 27, .int .i64 2]) (by kernel_rfl) (by kernel_rfl) (by kernel_rfl) (.pures (by kernel_rfl)) (by kernel_rfl)
         ·refine oI 2 (p' := g52p17) (eE := ((101, .bool false) :: E23)) (H' := (mkH [])) (by kernel_rfl) ?_
          refine okI_ent (p' := nav [0] g52p17) (by kernel_rfl) ?_
          refine oI 2 (p' := (atN 0 (ctl1 g52p19))) (eE := ((101, .bool false) :: E23)) (H' := (mkH [])) (by kernel_rfl) ?_
          refine okI_next 94 (by kernel_rfl) rfl 102 1 (by kernel_rfl) ?_
          refine okI_at (p' := (atN 1 (ctl1 g52p19))) (by kernel_rfl) ?_
          let E25 : Env := ((101, .bool (decide (x1_3 = 102))) :: (100, .int .u8 102) :: (99, .int .i32 102) :: (98, .int .u8 x1_3) :: (10, .int .i32 102) :: (9, .int .i64 3) :: (97, .int .i32 102) :: (96, .int .i64 3) :: (95, .bool true) :: (94, .tuple [.bool true, .int .i64 3, .int .i32 102]) :: (101, .bool false) :: E23)
          refine oI 20 (p' := g52p29) (eE := E25) (H' := (mkH [])) (by kernel_rfl) ?_
          refine okI_split 101 (b := decide (x1_3 = 102)) (by kernel_rfl) (fun hb => ?_) (fun hb => ?_)
          ·let E26 : Env := ((5, .int .i64 2) :: (4, .int .i64 12) :: (104, .int .i64 12) :: (103, .int .i64 3) :: (102, .agg [.int .i64 8, .int .i64 127, .int .i64 27, .int .i64 12, .int .i64 10, .int .i64 13, .int .i64 32, .int .i64 9, .int .i64 11]) :: (101, .bool true) :: E25)
           refine oI 10 (p' := .fin) (eE := E26) (H' := (mkH [])) (by kernel_rfl) ?_
           refine okI_drop ?_
           exact oT (r := ((12 : Int), (2 : Int))) (xs := [.int .i64 12, .int .i64 2]) (v := .tuple [.int .i64 12, .int .i64 2]) (by kernel_rfl) (by kernel_rfl) (by kernel_rfl) (.pures (by kernel_rfl)) (by kernel_rfl)
          ·refine oI 2 (p' := g52p17) (eE := ((101, .bool false) :: E25)) (H' := (mkH [])) (by kernel_rfl) ?_
           refine okI_ent (p' := nav [0] g52p17) (by kernel_rfl) ?_
           refine oI 2 (p' := (atN 0 (ctl1 g52p19))) (eE := ((101, .bool false) :: E25)) (H' := (mkH [])) (by kernel_rfl) ?_
           refine okI_next 94 (by kernel_rfl) rfl 110 1 (by kernel_rfl) ?_
           refine okI_at (p' := (atN 1 (ctl1 g52p19))) (by kernel_rfl) ?_
           let E27 : Env := ((101, .bool (decide (x1_3 = 110))) :: (100, .int .u8 110) :: (99, .int .i32 110) :: (98, .int .u8 x1_3) :: (10, .int .i32 110) :: (9, .int .i64 4) :: (97, .int .i32 110) :: (96, .int .i64 4) :: (95, .bool true) :: (94, .tuple [.bool true, .int .i64 4, .int .i32 110]) :: (101, .bool false) :: E25)
           refine oI 20 (p' := g52p29) (eE := E27) (H' := (mkH [])) (by kernel_rfl) ?_
           refine okI_split 101 (b := decide (x1_3 = 110)) (by kernel_rfl) (fun hb => ?_) (fun hb => ?_)
           ·let E28 : Env := ((5, .int .i64 2) :: (4, .int .i64 10) :: (104, .int .i64 10) :: (103, .int .i64 4) :: (102, .agg [.int .i64 8, .int .i64 127, .int .i64 27, .int .i64 12, .int .i64 10, .int .i64 13, .int .i64 32, .int .i64 9, .int .i64 11]) :: (101, .bool true) :: E27)
            refine oI 10 (p' := .fin) (eE := E28) (H' := (mkH [])) (by kernel_rfl) ?_
            refine okI_drop ?_
            exact oT (r := ((10 : Int), (2 : Int))) (xs := [.int .i64 10, .int .i64 2]) (v := .tuple [.int .i64 10, .int .i64 2]) (by kernel_rfl) (by kernel_rfl) (by kernel_rfl) (.pures (by kernel_rfl)) (by kernel_rfl)
           ·refine oI 2 (p' := g52p17) (eE := ((101, .bool false) :: E27)) (H' := (mkH [])) (by kernel_rfl) ?_
            refine okI_ent (p' := nav [0] g52p17) (by kernel_rfl) ?_
            refine oI 2 (p' := (atN 0 (ctl1 g52p19))) (eE := ((101, .bool false) :: E27)) (H' := (mkH [])) (by kernel_rfl) ?_
            refine okI_next 94 (by kernel_rfl) rfl 114 1 (by kernel_rfl) ?_
            refine okI_at (p' := (atN 1 (ctl1 g52p19))) (by kernel_rfl) ?_
            let E29 : Env := ((101, .bool (decide (x1_3 = 114))) :: (100, .int .u8 114) :: (99, .int .i32 114) :: (98, .int .u8 x1_3) :: (10, .int .i32 114) :: (9, .int .i64 5) :: (97, .int .i32 114) :: (96, .int .i64 5) :: (95, .bool true) :: (94, .tuple [.bool true, .int .i64 5, .int .i32 114]) :: (101, .bool false) :: E27)
            refine oI 20 (p' := g52p29) (eE := E29) (H' := (mkH [])) (by kernel_rfl) ?_
            refine okI_split 101 (b := decide (x1_3 = 114)) (by kernel_rfl) (fun hb => ?_) (fun hb => ?_)
            ·let E30 : Env := ((5, .int .i64 2) :: (4, .int .i64 13) :: (104, .int .i64 13) :: (103, .int .i64 5) :: (102, .agg [.int .i64 8, .int .i64 127, .int .i64 27, .int .i64 12, .int .i64 10, .int .i64 13, .int .i64 32, .int .i64 9, .int .i64 11]) :: (101, .bool true) :: E29)
             refine oI 10 (p' := .fin) (eE := E30) (H' := (mkH [])) (by kernel_rfl) ?_
             refine okI_drop ?_
             exact oT (r := ((13 : Int), (2 : Int))) (xs := [.int .i64 13, .int .i64 2]) (v := .tuple [.int .i64 13, .int .i64 2]) (by kernel_rfl) (by kernel_rfl) (by kernel_rfl) (.pures (by kernel_rfl)) (by kernel_rfl)
            ·refine oI 2 (p' := g52p17) (eE := ((101, .bool false) :: E29)) (H' := (mkH [])) (by kernel_rfl) ?_
             refine okI_ent (p' := nav [0] g52p17) (by kernel_rfl) ?_
             refine oI 2 (p' := (atN 0 (ctl1 g52p19))) (eE := ((101, .bool false) :: E29)) (H' := (mkH [])) (by kernel_rfl) ?_
             refine okI_next 94 (by kernel_rfl) rfl 115 1 (by kernel_rfl) ?_
             refine okI_at (p' := (atN 1 (ctl1 g52p19))) (by kernel_rfl) ?_
             let E31 : Env := ((101, .bool (decide (x1_3 = 115))) :: (100, .int .u8 115) :: (99, .int .i32 115) :: (98, .int .u8 x1_3) :: (10, .int .i32 115) :: (9, .int .i64 6) :: (97, .int .i32 115) :: (96, .int .i64 6) :: (95, .bool true) :: (94, .tuple [.bool true, .int .i64 6, .int .i32 115]) :: (101, .bool false) :: E29)
             refine oI 20 (p' := g52p29) (eE := E31) (H' := (mkH [])) (by kernel_rfl) ?_
             refine okI_split 101 (b := decide (x1_3 = 115)) (by kernel_rfl) (fun hb => ?_) (fun hb => ?_)
             ·let E32 : Env := ((5, .int .i64 2) :: (4, .int .i64 32) :: (104, .int .i64 32) :: (103, .int .i64 6) :: (102, .agg [.int .i64 8, .int .i64 127, .int .i64 27, .int .i64 12, .int .i64 10, .int .i64 13, .int .i64 32, .int .i64 9, .int .i64 11]) :: (101, .bool true) :: E31)
              refine oI 10 (p' := .fin) (eE := E32) (H' := (mkH [])) (by kernel_rfl) ?_
              refine okI_drop ?_
              exact oT (r := ((32 : Int), (2 : Int))) (xs := [.int .i64 32, .int .i64 2]) (v := .tuple [.int .i64 32, .int .i64 2]) (by kernel_rfl) (by kernel_rfl) (by kernel_rfl) (.pures (by kernel_rfl)) (by kernel_rfl)
             ·refine oI 2 (p' := g52p17) (eE := ((101, .bool false) :: E31)) (H' := (mkH [])) (by kernel_rfl) ?_
              refine okI_ent (p' := nav [0] g52p17) (by kernel_rfl) ?_
              refine oI 2 (p' := (atN 0 (ctl1 g52p19))) (eE := ((101, .bool false) :: E31)) (H' := (mkH [])) (by kernel_rfl) ?_
              refine okI_next 94 (by kernel_rfl) rfl 116 1 (by kernel_rfl) ?_
              refine okI_at (p' := (atN 1 (ctl1 g52p19))) (by kernel_rfl) ?_
              let E33 : Env := ((101, .bool (decide (x1_3 = 116))) :: (100, .int .u8 116) :: (99, .int .i32 116) :: (98, .int .u8 x1_3) :: (10, .int .i32 116) :: (9, .int .i64 7) :: (97, .int .i32 116) :: (96, .int .i64 7) :: (95, .bool true) :: (94, .tuple [.bool true, .int .i64 7, .int .i32 116]) :: (101, .bool false) :: E31)
              refine oI 20 (p' := g52p29) (eE := E33) (H' := (mkH [])) (by kernel_rfl) ?_
              refine okI_split 101 (b := decide (x1_3 = 116)) (by kernel_rfl) (fun hb => ?_) (fun hb => ?_)
              ·let E34 : Env := ((5, .int .i64 2) :: (4, .int .i64 9) :: (104, .int .i64 9) :: (103, .int .i64 7) :: (102, .agg [.int .i64 8, .int .i64 127, .int .i64 27, .int .i64 12, .int .i64 10, .int .i64 13, .int .i64 32, .int .i64 9, .int .i64 11]) :: (101, .bool true) :: E33)
               refine oI 10 (p' := .fin) (eE := E34) (H' := (mkH [])) (by kernel_rfl) ?_
               refine okI_drop ?_
               exact oT (r := ((9 : Int), (2 : Int))) (xs := [.int .i64 9, .int .i64 2]) (v := .tuple [.int .i64 9, .int .i64 2]) (by kernel_rfl) (by kernel_rfl) (by kernel_rfl) (.pures (by kernel_rfl)) (by kernel_rfl)
              ·refine oI 2 (p' := g52p17) (eE := ((101, .bool false) :: E33)) (H' := (mkH [])) (by kernel_rfl) ?_
               refine okI_ent (p' := nav [0] g52p17) (by kernel_rfl) ?_
               refine oI 2 (p' := (atN 0 (ctl1 g52p19))) (eE := ((101, .bool false) :: E33)) (H' := (mkH [])) (by kernel_rfl) ?_
               refine okI_next 94 (by kernel_rfl) rfl 118 1 (by kernel_rfl) ?_
               refine okI_at (p' := (atN 1 (ctl1 g52p19))) (by kernel_rfl) ?_
               let E35 : Env := ((101, .bool (decide (x1_3 = 118))) :: (100, .int .u8 118) :: (99, .int .i32 118) :: (98, .int .u8 x1_3) :: (10, .int .i32 118) :: (9, .int .i64 8) :: (97, .int .i32 118) :: (96, .int .i64 8) :: (95, .bool true) :: (94, .tuple [.bool true, .int .i64 8, .int .i32 118]) :: (101, .bool false) :: E33)
               refine oI 20 (p' := g52p29) (eE := E35) (H' := (mkH [])) (by kernel_rfl) ?_
               refine okI_split 101 (b := decide (x1_3 = 118)) (by kernel_rfl) (fun hb => ?_) (fun hb => ?_)
               ·let E36 : Env := ((5, .int .i64 2) :: (4, .int .i64 11) :: (104, .int .i64 11) :: (103, .int .i64 8) :: (102, .agg [.int .i64 8, .int .i64 127, .int .i64 27, .int .i64 12, .int .i64 10, .int .i64 13, .int .i64 32, .int .i64 9, .int .i64 11]) :: (101, .bool true) :: E35)
                refine oI 10 (p' := .fin) (eE := E36) (H' := (mkH [])) (by kernel_rfl) ?_
                refine okI_drop ?_
                exact oT (r := ((11 : Int), (2 : Int))) (xs := [.int .i64 11, .int .i64 2]) (v := .tuple [.int .i64 11, .int .i64 2]) (by kernel_rfl) (by kernel_rfl) (by kernel_rfl) (.pures (by kernel_rfl)) (by kernel_rfl)
               ·refine oI 2 (p' := g52p17) (eE := ((101, .bool false) :: E35)) (H' := (mkH [])) (by kernel_rfl) ?_
                refine okI_ent (p' := nav [0] g52p17) (by kernel_rfl) ?_
                refine oI 2 (p' := (atN 0 (ctl1 g52p19))) (eE := ((101, .bool false) :: E35)) (H' := (mkH [])) (by kernel_rfl) ?_
                refine okI_over 94 (by kernel_rfl) rfl ?_
                refine okI_drop ?_
                refine ok_at (p' := (atN 1 (ctl1 g52p19))) (by kernel_rfl) ?_
                refine oR 3 (p' := g52p21) (eE := ((95, .bool false) :: (94, .tuple [.bool false]) :: (101, .bool false) :: E35)) (H' := (mkH [])) (by kernel_rfl) ?_
                refine oK [0, 1, 6, 94, 95] (eE := [(0, .str a0), (1, .int .i64 a1), (6, .int .u8 x1_3), (94, .tuple [.bool false]), (95, .bool false)]) (by kernel_rfl) ?_
                let E37 : Env := [(108, .int .i64 (fW .i64 (a1 + 1))), (107, .int .i64 a1), (106, .str a0), (0, .str a0), (1, .int .i64 a1), (6, .int .u8 x1_3), (94, .tuple [.bool false]), (95, .bool false)]
                refine oR 7 (p' := (atN 3 (ctl1 g52p25))) (eE := E37) (H' := (mkH [])) (by kernel_rfl) ?_
                refine oC (fun (x4_3 : (Int × Int)) => .tuple [.int .i64 x4_3.1, .int .i64 x4_3.2]) (atN 4 (ctl1 g52p25)) (fun x4_3 => ((109, .tuple [.int .i64 x4_3.1, .int .i64 x4_3.2]) :: E37)) (fi := 31) (args := [.str a0, .int .i64 (fW .i64 (a1 + 1))]) (by kernel_rfl) (by kernel_rfl) (fun _ => by kernel_rfl) (fun r h => g31_ok k a0 (fW .i64 (a1 + 1)) r h) (fun _ => by kernel_rfl) (fun x4_3 hx4_3 => ?_)
                let E38 : Env := ((12, .int .i64 x4_3.2) :: (11, .int .i64 x4_3.1) :: (111, .int .i64 x4_3.2) :: (110, .int .i64 x4_3.1) :: (105, .tuple [.int .i64 x4_3.1, .int .i64 x4_3.2]) :: (109, .tuple [.int .i64 x4_3.1, .int .i64 x4_3.2]) :: E37)
                refine oR 8 (p' := g52p28) (eE := E38) (H' := (mkH [])) (by kernel_rfl) ?_
                refine oK [11, 12] (eE := [(11, .int .i64 x4_3.1), (12, .int .i64 x4_3.2)]) (by kernel_rfl) ?_
                refine oR 4 (p' := g52p30) (eE := [(113, .bool (decide (x4_3.1 < 32))), (112, .int .i64 x4_3.1), (11, .int .i64 x4_3.1), (12, .int .i64 x4_3.2)]) (H' := (mkH [])) (by kernel_rfl) ?_
                refine oS 113 (b := decide (x4_3.1 < 32)) (by kernel_rfl) (fun hb => ?_) (fun hb => ?_)
                ·let E39 : Env := [(5, .int .i64 0), (4, .int .i64 (-1)), (113, .bool true), (113, .bool (decide (x4_3.1 < 32))), (112, .int .i64 x4_3.1), (11, .int .i64 x4_3.1), (12, .int .i64 x4_3.2)]
                 refine oR 7 (p' := .fin) (eE := E39) (H' := (mkH [])) (by kernel_rfl) ?_
                 exact oT (r := (((-1) : Int), (0 : Int))) (xs := [.int .i64 (-1), .int .i64 0]) (v := .tuple [.int .i64 (-1), .int .i64 0]) (by kernel_rfl) (by kernel_rfl) (by kernel_rfl) (.pures (by kernel_rfl)) (by kernel_rfl)
                ·let E40 : Env := [(5, .int .i64 (fW .i64 (x4_3.2 + 1))), (4, .int .i64 x4_3.1), (116, .int .i64 (fW .i64 (x4_3.2 + 1))), (115, .int .i64 x4_3.2), (114, .int .i64 x4_3.1), (113, .bool false), (113, .bool (decide (x4_3.1 < 32))), (112, .int .i64 x4_3.1), (11, .int .i64 x4_3.1), (12, .int .i64 x4_3.2)]
                 refine oR 11 (p' := .fin) (eE := E40) (H' := (mkH [])) (by kernel_rfl) ?_
                 exact oT (r := (x4_3.1, fW .i64 (x4_3.2 + 1))) (xs := [.int .i64 x4_3.1, .int .i64 (fW .i64 (x4_3.2 + 1))]) (v := .tuple [.int .i64 x4_3.1, .int .i64 (fW .i64 (x4_3.2 + 1))]) (by kernel_rfl) (by kernel_rfl) (by kernel_rfl) (.pures (by kernel_rfl)) (by kernel_rfl)
     ·refine oS 57 (b := decide (48 ≤ x1_3)) (by kernel_rfl) (fun hb => ?_) (fun hb => ?_)
      ·let E41 : Env := ((54, .bool (decide (x1_3 ≤ 55))) :: (60, .bool (decide (x1_3 ≤ 55))) :: (59, .bool (decide (x1_3 ≤ 55))) :: (58, .int .u8 x1_3) :: (57, .bool true) :: (57, .bool (decide (48 ≤ x1_3))) :: (56, .bool (decide (48 ≤ x1_3))) :: (55, .int .u8 x1_3) :: (46, .bool false) :: E7)
       refine oR 5 (p' := g52p13) (eE := E41) (H' := (mkH [])) (by kernel_rfl) ?_
       refine oK [0, 1, 6, 54] (eE := [(0, .str a0), (1, .int .i64 a1), (6, .int .u8 x1_3), (54, .bool (decide (x1_3 ≤ 55)))]) (by kernel_rfl) ?_
       exact hj8 (decide (x1_3 ≤ 55))
      ·let E42 : Env := ((54, .bool false) :: (60, .bool false) :: (59, .tuple []) :: (58, .tuple []) :: (57, .bool false) :: (57, .bool (decide (48 ≤ x1_3))) :: (56, .bool (decide (48 ≤ x1_3))) :: (55, .int .u8 x1_3) :: (46, .bool false) :: E7)
       refine oR 5 (p' := g52p13) (eE := E42) (H' := (mkH [])) (by kernel_rfl) ?_
       refine oK [0, 1, 6, 54] (eE := [(0, .str a0), (1, .int .i64 a1), (6, .int .u8 x1_3), (54, .bool false)]) (by kernel_rfl) ?_
       exact hj8 false
 ·refine oS 15 (b := decide (a1 < 0)) (by kernel_rfl) (fun hb => ?_) (fun hb => ?_)
  ·let E43 : Env := ((33, .bool true) :: (32, .tuple []) :: (31, .tuple []) :: (30, .tuple []) :: (29, .tuple []) :: (28, .tuple []) :: (27, .bool true) :: (26, .bool true) :: (25, .tuple []) :: (24, .tuple []) :: (23, .tuple []) :: (22, .tuple []) :: (21, .bool true) :: (20, .bool true) :: (19, .tuple []) :: (18, .tuple []) :: (17, .tuple []) :: (16, .tuple []) :: (15, .bool true) :: E1)
   refine oR 19 (p' := g52p2) (eE := E43) (H' := (mkH [])) (by kernel_rfl) ?_
   refine oK [0, 1, 33] (eE := [(0, .str a0), (1, .int .i64 a1), (33, .bool true)]) (by kernel_rfl) ?_
   exact hj7 true
  ·let E44 : Env := ((21, .bool (decide ((a0.length : Int) ≤ a1))) :: (20, .bool (decide ((a0.length : Int) ≤ a1))) :: (19, .bool (decide ((a0.length : Int) ≤ a1))) :: (18, .int .i64 (a0.length : Int)) :: (17, .str a0) :: (16, .int .i64 a1) :: (15, .bool false) :: E1)
   refine oR 6 (p' := (atN 9 (ctl1 g52p1))) (eE := E44) (H' := (mkH [])) (by kernel_rfl) ?_
   refine oS 21 (b := decide ((a0.length : Int) ≤ a1)) (by kernel_rfl) (fun hb => ?_) (fun hb => ?_)
   ·let E45 : Env := ((33, .bool true) :: (32, .tuple []) :: (31, .tuple []) :: (30, .tuple []) :: (29, .tuple []) :: (28, .tuple []) :: (27, .bool true) :: (26, .bool true) :: (25, .tuple []) :: (24, .tuple []) :: (23, .tuple []) :: (22, .tuple []) :: (21, .bool true) :: E44)
    refine oR 13 (p' := g52p2) (eE := E45) (H' := (mkH [])) (by kernel_rfl) ?_
    refine oK [0, 1, 33] (eE := [(0, .str a0), (1, .int .i64 a1), (33, .bool true)]) (by kernel_rfl) ?_
    exact hj7 true
   ·refine oR 2 (p' := (atN 11 (ctl1 g52p1))) (eE := ((23, .int .i64 a1) :: (22, .str a0) :: (21, .bool false) :: E44)) (H' := (mkH [])) (by kernel_rfl) ?_
    refine oH (fun (x0_11 : Int) => (.int .u8 x0_11, (mkH []))) (atN 12 (ctl1 g52p1)) (fun x0_11 => ((24, .int .u8 x0_11) :: (23, .int .i64 a1) :: (22, .str a0) :: (21, .bool false) :: E44)) (idxH (by kernel_rfl)) (fun _ => by kernel_rfl) (fun x0_11 hx0_11 => ?_)
    let E46 : Env := ((27, .bool (!decide (x0_11 = 92))) :: (26, .bool (!decide (x0_11 = 92))) :: (25, .bool (!decide (x0_11 = 92))) :: (24, .int .u8 x0_11) :: (23, .int .i64 a1) :: (22, .str a0) :: (21, .bool false) :: E44)
    refine oR 3 (p' := (atN 15 (ctl1 g52p1))) (eE := E46) (H' := (mkH [])) (by kernel_rfl) ?_
    refine oS 27 (b := !decide (x0_11 = 92)) (by kernel_rfl) (fun hb => ?_) (fun hb => ?_)
    ·let E47 : Env := ((33, .bool true) :: (32, .tuple []) :: (31, .tuple []) :: (30, .tuple []) :: (29, .tuple []) :: (28, .tuple []) :: (27, .bool true) :: E46)
     refine oR 7 (p' := g52p2) (eE := E47) (H' := (mkH [])) (by kernel_rfl) ?_
     refine oK [0, 1, 33] (eE := [(0, .str a0), (1, .int .i64 a1), (33, .bool true)]) (by kernel_rfl) ?_
     exact hj7 true
    ·let E48 : Env := ((33, .bool (decide ((a0.length : Int) ≤ fW .i64 (a1 + 1)))) :: (32, .bool (decide ((a0.length : Int) ≤ fW .i64 (a1 + 1)))) :: (31, .int .i64 (a0.length : Int)) :: (30, .str a0) :: (29, .int .i64 (fW .i64 (a1 + 1))) :: (28, .int .i64 a1) :: (27, .bool false) :: E46)
     refine oR 7 (p' := g52p2) (eE := E48) (H' := (mkH [])) (by kernel_rfl) ?_
     refine oK [0, 1, 33] (eE := [(0, .str a0), (1, .int .i64 a1), (33, .bool (decide ((a0.length : Int) ≤ fW .i64 (a1 + 1))))]) (by kernel_rfl) ?_
     exact hj7 (decide ((a0.length : Int) ≤ fW .i64 (a1 + 1)))
end
end Go.Proofs.Ytokcjgjgojlhbaa.Am
set_option maxRecDepth 100000
set_option linter.unusedVariables false
namespace Go.Proofs.Ytokcjgjgojlhbaa.Am
noncomputable section
open Go
def X60 : Fx (Int × Int) := ⟨Try.prog, cx, Try.f60, fun r => .tuple [.int .i64 r.1, .int .i64 r.2], 0, fun _ => H0, cxTi, cxOrd⟩
def g60p0 : Pt := nav [0] (bodyAt Try.f60)
def g60p1 : Pt := nav [0, 0, 0] g60p0
def g60p2 : Pt := nav [0, 0, 0, 0, 0] g60p1
def g60p3 : Pt := nav [0, 0, 0] g60p2
def g60p4 : Pt := nav [0, 0] g60p3
def g60p5 : Pt := nav [1, 0, 0, 0] g60p4
def g60p7 : Pt := nav [0, 0] g60p5
def g60_l2 (k : Nat)  (a0 : (List Nat)) (a1 : Int) (a2 : Int) (a3 : Int) (n : Nat) : Int → Int → Option (Int × Int) :=
 Nat.rec (motive := fun _ => Int → Int → Option (Int × Int)) (fun _ _ => none) (fun _ ih => fun (y2_0 : Int) (y2_1 : Int) => jn (fun (z3 : Bool × Int × Int) => if z3.1 then ((nthS a0 (fW .i64 (a1 + z3.2.2))).bind fun x1_7 => (g66 k x1_7 a2).bind fun x1_9 => ih (fW .i64 (fW .i64 (z3.2.1 * a2) + x1_9)) (fW .i64 (z3.2.2 + 1))) else (some (z3.2.1, z3.2.2))) (fun j3 => if (decide (y2_1 < a3)) then (if (decide (fW .i64 (a1 + y2_1) < (a0.length : Int))) then ((nthS a0 (fW .i64 (a1 + y2_1))).bind fun x0_16 => (g66 k x0_16 a2).bind fun x0_18 => j3 (decide (0 ≤ x0_18), y2_0, y2_1)) else (j3 (false, y2_0, y2_1))) else (j3 (false, y2_0, y2_1)))) n
theorem g60_l2_s (k : Nat)  (a0 : (List Nat)) (a1 : Int) (a2 : Int) (a3 : Int) (n : Nat) (y2_0 : Int) (y2_1 : Int) : g60_l2 k a0 a1 a2 a3 (n + 1) y2_0 y2_1 = (jn (fun (z3 : Bool × Int × Int) => if z3.1 then ((nthS a0 (fW .i64 (a1 + z3.2.2))).bind fun x1_7 => (g66 k x1_7 a2).bind fun x1_9 => (g60_l2 k a0 a1 a2 a3 n) (fW .i64 (fW .i64 (z3.2.1 * a2) + x1_9)) (fW .i64 (z3.2.2 + 1))) else (some (z3.2.1, z3.2.2))) (fun j3 => if (decide (y2_1 < a3)) then (if (decide (fW .i64 (a1 + y2_1) < (a0.length : Int))) then ((nthS a0 (fW .i64 (a1 + y2_1))).bind fun x0_16 => (g66 k x0_16 a2).bind fun x0_18 => j3 (decide (0 ≤ x0_18), y2_0, y2_1)) else (j3 (false, y2_0, y2_1))) else (j3 (false, y2_0, y2_1)))) := rfl
theorem g60_l2_ok (k : Nat)  (a0 : (List Nat)) (a1 : Int) (a2 : Int) (a3 : Int)  : ∀ (n : Nat) (y2_0 : Int) (y2_1 : Int), Ok X60 g60p2 [(0, .str a0), (1, .int .i64 a1), (2, .int .i64 a2), (3, .int .i64 a3), (10, .int .i64 y2_0), (11, .int .i64 y2_1)] (mkH []) (g60_l2 k a0 a1 a2 a3 n y2_0 y2_1)
 | 0, _, _ => ok_none
 | n + 1, y2_0, y2_1 => by
  have ih := g60_l2_ok k a0 a1 a2 a3 n
  rw [g60_l2_s]
  refine ok_ent (p' := nav [0] g60p2) (by kernel_rfl) ?_
  let E2 : Env := [(15, .bool (decide (y2_1 < a3))), (14, .bool (decide (y2_1 < a3))), (13, .int .i64 a3), (12, .int .i64 y2_1), (0, .str a0), (1, .int .i64 a1), (2, .int .i64 a2), (3, .int .i64 a3), (10, .int .i64 y2_0), (11, .int .i64 y2_1)]
  refine oR 7 (p' := (atN 4 (ctl1 g60p3))) (eE := E2) (H' := (mkH [])) (by kernel_rfl) ?_
  refine oJ (f := fun (z3 : Bool × Int × Int) => if z3.1 then ((nthS a0 (fW .i64 (a1 + z3.2.2))).bind fun x1_7 => (g66 k x1_7 a2).bind fun x1_9 => (g60_l2 k a0 a1 a2 a3 n) (fW .i64 (fW .i64 (z3.2.1 * a2) + x1_9)) (fW .i64 (z3.2.2 + 1))) else (some (z3.2.1, z3.2.2))) g60p4 (fun (z3 : Bool × Int × Int) => [(0, .str a0), (1, .int .i64 a1), (2, .int .i64 a2), (3, .int .i64 a3), (10, .int .i64 z3.2.1), (11, .int .i64 z3.2.2), (32, .bool z3.1)]) (fun (z3 : Bool × Int × Int) => (mkH [])) (fun z3 => ?_) (fun j3 hj3 => ?_)
  ·refine oS 32 (b := z3.1) (by kernel_rfl) (fun hb => ?_) (fun hb => ?_)
   ·let E3 : Env := [(39, .int .i64 (fW .i64 (a1 + z3.2.2))), (38, .int .i64 z3.2.2), (37, .int .i64 a1), (36, .str a0), (35, .int .i64 (fW .i64 (z3.2.1 * a2))), (34, .int .i64 a2), (33, .int .i64 z3.2.1), (32, .bool true), (0, .str a0), (1, .int .i64 a1), (2, .int .i64 a2), (3, .int .i64 a3), (10, .int .i64 z3.2.1), (11, .int .i64 z3.2.2), (32, .bool z3.1)]
    refine oR 12 (p' := (atN 7 (ctl1 g60p5))) (eE := E3) (H' := (mkH [])) (by kernel_rfl) ?_
    refine oH (fun (x1_7 : Int) => (.int .u8 x1_7, (mkH []))) (atN 8 (ctl1 g60p5)) (fun x1_7 => ((40, .int .u8 x1_7) :: E3)) (idxH (by kernel_rfl)) (fun _ => by kernel_rfl) (fun x1_7 hx1_7 => ?_)
    refine oR 1 (p' := (atN 9 (ctl1 g60p5))) (eE := ((41, .int .i64 a2) :: (40, .int .u8 x1_7) :: E3)) (H' := (mkH [])) (by kernel_rfl) ?_
    refine oC (fun (x1_9 : Int) => .int .i64 x1_9) (atN 10 (ctl1 g60p5)) (fun x1_9 => ((42, .int .i64 x1_9) :: (41, .int .i64 a2) :: (40, .int .u8 x1_7) :: E3)) (fi := 66) (args := [.int .u8 x1_7, .int .i64 a2]) (by kernel_rfl) (by kernel_rfl) (fun _ => by kernel_rfl) (fun r h => g66_ok k x1_7 a2 r h) (fun _ => by kernel_rfl) (fun x1_9 hx1_9 => ?_)
    let E4 : Env := ((10, .int .i64 (fW .i64 (fW .i64 (z3.2.1 * a2) + x1_9))) :: (43, .int .i64 (fW .i64 (fW .i64 (z3.2.1 * a2) + x1_9))) :: (42, .int .i64 x1_9) :: (41, .int .i64 a2) :: (40, .int .u8 x1_7) :: E3)
    refine oR 3 (p' := g60p7) (eE := E4) (H' := (mkH [])) (by kernel_rfl) ?_
    refine oK [0, 1, 2, 3, 10, 11] (eE := [(0, .str a0), (1, .int .i64 a1), (2, .int .i64 a2), (3, .int .i64 a3), (10, .int .i64 (fW .i64 (fW .i64 (z3.2.1 * a2) + x1_9))), (11, .int .i64 z3.2.2)]) (by kernel_rfl) ?_
    let E5 : Env := [(11, .int .i64 (fW .i64 (z3.2.2 + 1))), (45, .int .i64 (fW .i64 (z3.2.2 + 1))), (44, .int .i64 z3.2.2), (0, .str a0), (1, .int .i64 a1), (2, .int .i64 a2), (3, .int .i64 a3), (10, .int .i64 (fW .i64 (fW .i64 (z3.2.1 * a2) + x1_9))), (11, .int .i64 z3.2.2)]
    refine oR 5 (p' := g60p2) (eE := E5) (H' := (mkH [])) (by kernel_rfl) ?_
    refine oK [0, 1, 2, 3, 10, 11] (eE := [(0, .str a0), (1, .int .i64 a1), (2, .int .i64 a2), (3, .int .i64 a3), (10, .int .i64 (fW .i64 (fW .i64 (z3.2.1 * a2) + x1_9))), (11, .int .i64 (fW .i64 (z3.2.2 + 1)))]) (by kernel_rfl) ?_
    exact ih (fW .i64 (fW .i64 (z3.2.1 * a2) + x1_9)) (fW .i64 (z3.2.2 + 1))
   ·let E6 : Env := [(9, .int .i64 z3.2.2), (8, .int .i64 z3.2.1), (47, .int .i64 z3.2.2), (46, .int .i64 z3.2.1), (32, .bool false), (0, .str a0), (1, .int .i64 a1), (2, .int .i64 a2), (3, .int .i64 a3), (10, .int .i64 z3.2.1), (11, .int .i64 z3.2.2), (32, .bool z3.1)]
    refine oR 10 (p' := .fin) (eE := E6) (H' := (mkH [])) (by kernel_rfl) ?_
    exact oT (r := (z3.2.1, z3.2.2)) (xs := [.int .i64 z3.2.1, .int .i64 z3.2.2]) (v := .tuple [.int .i64 z3.2.1, .int .i64 z3.2.2]) (by kernel_rfl) (by kernel_rfl) (by kernel_rfl) (.pures (by kernel_rfl)) (by kernel_rfl)
  ·refine oS 15 (b := decide (y2_1 < a3)) (by kernel_rfl) (fun hb => ?_) (fun hb => ?_)
   ·let E7 : Env := ((23, .bool (decide (fW .i64 (a1 + y2_1) < (a0.length : Int)))) :: (22, .bool (decide (fW .i64 (a1 + y2_1) < (a0.length : Int)))) :: (21, .bool (decide (fW .i64 (a1 + y2_1) < (a0.length : Int)))) :: (20, .int .i64 (a0.length : Int)) :: (19, .str a0) :: (18, .int .i64 (fW .i64 (a1 + y2_1))) :: (17, .int .i64 y2_1) :: (16, .int .i64 a1) :: (15, .bool true) :: E2)
    refine oR 8 (p' := (atN 12 (ctl1 g60p3))) (eE := E7) (H' := (mkH [])) (by kernel_rfl) ?_
    refine oS 23 (b := decide (fW .i64 (a1 + y2_1) < (a0.length : Int))) (by kernel_rfl) (fun hb => ?_) (fun hb => ?_)
    ·let E8 : Env := ((27, .int .i64 (fW .i64 (a1 + y2_1))) :: (26, .int .i64 y2_1) :: (25, .int .i64 a1) :: (24, .str a0) :: (23, .bool true) :: E7)
     refine oR 4 (p' := (atN 16 (ctl1 g60p3))) (eE := E8) (H' := (mkH [])) (by kernel_rfl) ?_
     refine oH (fun (x0_16 : Int) => (.int .u8 x0_16, (mkH []))) (atN 17 (ctl1 g60p3)) (fun x0_16 => ((28, .int .u8 x0_16) :: E8)) (idxH (by kernel_rfl)) (fun _ => by kernel_rfl) (fun x0_16 hx0_16 => ?_)
     refine oR 1 (p' := (atN 18 (ctl1 g60p3))) (eE := ((29, .int .i64 a2) :: (28, .int .u8 x0_16) :: E8)) (H' := (mkH [])) (by kernel_rfl) ?_
     refine oC (fun (x0_18 : Int) => .int .i64 x0_18) (atN 19 (ctl1 g60p3)) (fun x0_18 => ((30, .int .i64 x0_18) :: (29, .int .i64 a2) :: (28, .int .u8 x0_16) :: E8)) (fi := 66) (args := [.int .u8 x0_16, .int .i64 a2]) (by kernel_rfl) (by kernel_rfl) (fun _ => by kernel_rfl) (fun r h => g66_ok k x0_16 a2 r h) (fun _ => by kernel_rfl) (fun x0_18 hx0_18 => ?_)
     let E9 : Env := ((32, .bool (decide (0 ≤ x0_18))) :: (31, .bool (decide (0 ≤ x0_18))) :: (30, .int .i64 x0_18) :: (29, .int .i64 a2) :: (28, .int .u8 x0_16) :: E8)
     refine oR 3 (p' := g60p4) (eE := E9) (H' := (mkH [])) (by kernel_rfl) ?_
     refine oK [0, 1, 2, 3, 10, 11, 32] (eE := [(0, .str a0), (1, .int .i64 a1), (2, .int .i64 a2), (3, .int .i64 a3), (10, .int .i64 y2_0), (11, .int .i64 y2_1), (32, .bool (decide (0 ≤ x0_18)))]) (by kernel_rfl) ?_
     exact hj3 (decide (0 ≤ x0_18), y2_0, y2_1)
    ·let E10 : Env := ((32, .bool false) :: (31, .tuple []) :: (30, .tuple []) :: (29, .tuple []) :: (28, .tuple []) :: (27, .tuple []) :: (26, .tuple []) :: (25, .tuple []) :: (24, .tuple []) :: (23, .bool false) :: E7)
     refine oR 10 (p' := g60p4) (eE := E10) (H' := (mkH [])) (by kernel_rfl) ?_
     refine oK [0, 1, 2, 3, 10, 11, 32] (eE := [(0, .str a0), (1, .int .i64 a1), (2, .int .i64 a2), (3, .int .i64 a3), (10, .int .i64 y2_0), (11, .int .i64 y2_1), (32, .bool false)]) (by kernel_rfl) ?_
     exact hj3 (false, y2_0, y2_1)
   ·let E11 : Env := ((32, .bool false) :: (31, .tuple []) :: (30, .tuple []) :: (29, .tuple []) :: (28, .tuple []) :: (27, .tuple []) :: (26, .tuple []) :: (25, .tuple []) :: (24, .tuple []) :: (23, .bool false) :: (22, .bool false) :: (21, .tuple []) :: (20, .tuple []) :: (19, .tuple []) :: (18, .tuple []) :: (17, .tuple []) :: (16, .tuple []) :: (15, .bool false) :: E2)
    refine oR 18 (p' := g60p4) (eE := E11) (H' := (mkH [])) (by kernel_rfl) ?_
    refine oK [0, 1, 2, 3, 10, 11, 32] (eE := [(0, .str a0), (1, .int .i64 a1), (2, .int .i64 a2), (3, .int .i64 a3), (10, .int .i64 y2_0), (11, .int .i64 y2_1), (32, .bool false)]) (by kernel_rfl) ?_
    exact hj3 (false, y2_0, y2_1)
def g60 (k : Nat) (a0 : (List Nat)) (a1 : Int) (a2 : Int) (a3 : Int) : Option (Int × Int) :=
 g60_l2 k a0 a1 a2 a3 k 0 0
theorem g60_ok (k : Nat) (a0 : (List Nat)) (a1 : Int) (a2 : Int) (a3 : Int) (r : (Int × Int)) (h : g60 k a0 a1 a2 a3 = some r) : PureOk Try.prog 60 [.str a0, .int .i64 a1, .int .i64 a2, .int .i64 a3] (.tuple [.int .i64 r.1, .int .i64 r.2]) := by
 refine pure_of X60 (fun _ => rfl) Try.func60 (by decide +kernel) (by kernel_rfl) (t := g60 k a0 a1 a2 a3) ?_ h
 unfold g60
 refine oE (eE := [(0, .str a0), (1, .int .i64 a1), (2, .int .i64 a2), (3, .int .i64 a3)]) (by kernel_rfl) ?_
 let E1 : Env := [(11, .int .i64 0), (10, .int .i64 0), (9, .int .i64 0), (8, .int .i64 0), (0, .str a0), (1, .int .i64 a1), (2, .int .i64 a2), (3, .int .i64 a3)]
 refine oR 13 (p' := g60p2) (eE := E1) (H' := (mkH [])) (by kernel_rfl) ?_
 refine oK [0, 1, 2, 3, 10, 11] (eE := [(0, .str a0), (1, .int .i64 a1), (2, .int .i64 a2), (3, .int .i64 a3), (10, .int .i64 0), (11, .int .i64 0)]) (by kernel_rfl) ?_
 exact (g60_l2_ok k a0 a1 a2 a3 k) 0 0
end
end Go.Proofs.Ytokcjgjgojlhbaa.Am
set_option maxRecDepth 100000
set_option linter.unusedVariables false
namespace Go.Proofs.Ytokcjgjgojlhbaa.Am
noncomputable section
open Go
def X46 : Fx (Int × Int) := ⟨Try.prog, cx, Try.f46, fun r => .tuple [.int .i64 r.1, .int .i64 r.2], 0, fun _ => H0, cxTi, cxOrd⟩
def g46c0 : List Int := [(8 : Int), (127 : Int), (27 : Int), (12 : Int), (10 : Int), (13 : Int), (32 : Int), (9 : Int), (11 : Int)]
def g46c1 : List Nat := [98, 100, 101, 102, 110, 114, 115, 116, 118]
def g46p0 : Pt := nav [0] (bodyAt Try.f46)
def g46p1 : Pt := nav [0, 0, 0, 0] g46p0
def g46p2 : Pt := nav [0, 0] g46p1
def g46p4 : Pt := nav [2, 0, 0] g46p2
def g46p6 : Pt := nav [0, 0, 0] g46p4
def g46p7 : Pt := nav [0, 0, 0, 0] g46p6
def g46p8 : Pt := nav [0, 0, 0, 0] g46p7
def g46p9 : Pt := nav [0, 0, 0] g46p8
def g46p10 : Pt := nav [0, 0] g46p9
def g46p11 : Pt := nav [1, 0, 0, 0, 0] g46p10
def g46p12 : Pt := nav [2, 0, 0, 0, 0] g46p10
def g46p13 : Pt := nav [0, 0] g46p11
def g46p14 : Pt := nav [0, 0] g46p12
def g46p15 : Pt := nav [1, 0] g46p13
def g46p17 : Pt := nav [1, 0] g46p14
def g46p18 : Pt := nav [2, 0] g46p14
def g46p19 : Pt := nav [0, 0, 0] g46p17
def g46p20 : Pt := nav [0, 0] g46p18
def g46p21 : Pt := nav [1, 0] g46p20
def g46p22 : Pt := nav [2, 0] g46p20
def g46p23 : Pt := nav [0, 0, 0, 0] g46p21
def g46p24 : Pt := nav [0, 0] g46p22
def g46p25 : Pt := nav [0, 0] g46p23
def g46p26 : Pt := nav [1, 0] g46p24
def g46p27 : Pt := nav [2, 0] g46p24
def g46p30 : Pt := nav [0, 0, 0, 0] g46p26
def g46p31 : Pt := nav [0, 0] g46p27
def g46p32 : Pt := nav [0, 0] g46p30
def g46p33 : Pt := nav [1, 0, 0] g46p31
def g46p34 : Pt := nav [2, 0, 0] g46p31
def g46p37 : Pt := nav [0, 0] g46p33
def g46p38 : Pt := nav [0, 0, 0, 0] g46p34
def g46p40 : Pt := nav [2, 0, 0] g46p37
def g46p41 : Pt := nav [0, 0] g46p38
def g46_l13 (k : Nat)  (a0 : (List Nat)) (a1 : Int) (x1_3 : Int) (n : Nat) : Int → Option (Int × Int) :=
 Nat.rec (motive := fun _ => Int → Option (Int × Int)) (fun _ => none) (fun _ ih => fun (y13_0 : Int) => if (decide (y13_0 < 9)) then ((nthS g46c1 y13_0).bind fun x3_2 => if (decide (x3_2 = x1_3)) then ((nthL g46c0 y13_0).bind fun x2_2 => some (x2_2, (2 : Int))) else (ih (fW .i64 (y13_0 + 1)))) else (jn (fun (z14 : Bool) => if z14 then ((g60 k a0 (fW .i64 (a1 + 1)) (8 : Int) (3 : Int)).bind fun x4_3 => some (x4_3.1, fW .i64 (1 + x4_3.2))) else (jn (fun (z15 : Bool) => if z15 then ((g60 k a0 (fW .i64 (a1 + 3)) (16 : Int) (6 : Int)).bind fun x6_3 => jn (fun (z16 : Bool) => if z16 then (some (((-1) : Int), (0 : Int))) else (some (x6_3.1, fW .i64 (4 + x6_3.2)))) (fun j16 => if (decide (x6_3.2 = 0)) then (j16 true) else (if (decide ((a0.length : Int) ≤ fW .i64 (fW .i64 (a1 + 3) + x6_3.2))) then (j16 true) else ((nthS a0 (fW .i64 (fW .i64 (a1 + 3) + x6_3.2))).bind fun x7_17 => if (!decide (x7_17 = 125)) then (j16 true) else ((g50 k x6_3.1).bind fun x7_22 => j16 (!x7_22)))))) else (if (decide (x1_3 = 120)) then ((g60 k a0 (fW .i64 (a1 + 2)) (16 : Int) (2 : Int)).bind fun x8_3 => if (decide (x8_3.2 < 2)) then (some (((-1) : Int), (0 : Int))) else (some (x8_3.1, (4 : Int)))) else (if (decide (x1_3 = 94)) then (jn (fun (z17 : Bool) => if z17 then (some (((-1) : Int), (0 : Int))) else ((nthS a0 (fW .i64 (a1 + 2))).bind fun x11_3 => some (andI .i64 (fW .i64 x11_3) 31, (3 : Int)))) (fun j17 => if (decide ((a0.length : Int) ≤ fW .i64 (a1 + 2))) then (j17 true) else ((nthS a0 (fW .i64 (a1 + 2))).bind fun x9_9 => if (decide (64 ≤ x9_9)) then ((nthS a0 (fW .i64 (a1 + 2))).bind fun x9_15 => if (decide (x9_15 ≤ 95)) then (j17 false) else ((nthS a0 (fW .i64 (a1 + 2))).bind fun x9_22 => if (decide (97 ≤ x9_22)) then ((nthS a0 (fW .i64 (a1 + 2))).bind fun x9_28 => j17 (!(decide (x9_28 ≤ 122)))) else (j17 true))) else ((nthS a0 (fW .i64 (a1 + 2))).bind fun x9_22 => if (decide (97 ≤ x9_22)) then ((nthS a0 (fW .i64 (a1 + 2))).bind fun x9_28 => j17 (!(decide (x9_28 ≤ 122)))) else (j17 true))))) else ((g32 k a0 (fW .i64 (a1 + 1))).bind fun x10_3 => if (decide (x10_3.1 < 32)) then (some (((-1) : Int), (0 : Int))) else (some (x10_3.1, fW .i64 (1 + x10_3.2))))))) (fun j15 => if (decide (x1_3 = 120)) then (if (decide (fW .i64 (a1 + 2) < (a0.length : Int))) then ((nthS a0 (fW .i64 (a1 + 2))).bind fun x5_13 => j15 (decide (x5_13 = 123))) else (j15 false)) else (j15 false)))) (fun j14 => if (decide (48 ≤ x1_3)) then (j14 (decide (x1_3 ≤ 55))) else (j14 false)))) n
theorem g46_l13_s (k : Nat)  (a0 : (List Nat)) (a1 : Int) (x1_3 : Int) (n : Nat) (y13_0 : Int) : g46_l13 k a0 a1 x1_3 (n + 1) y13_0 = (if (decide (y13_0 < 9)) then ((nthS g46c1 y13_0).bind fun x3_2 => if (decide (x3_2 = x1_3)) then ((nthL g46c0 y13_0).bind fun x2_2 => some (x2_2, (2 : Int))) else ((g46_l13 k a0 a1 x1_3 n) (fW .i64 (y13_0 + 1)))) else (jn (fun (z14 : Bool) => if z14 then ((g60 k a0 (fW .i64 (a1 + 1)) (8 : Int) (3 : Int)).bind fun x4_3 => some (x4_3.1, fW .i64 (1 + x4_3.2))) else (jn (fun (z15 : Bool) => if z15 then ((g60 k a0 (fW .i64 (a1 + 3)) (16 : Int) (6 : Int)).bind fun x6_3 => jn (fun (z16 : Bool) => if z16 then (some (((-1) : Int), (0 : Int))) else (some (x6_3.1, fW .i64 (4 + x6_3.2)))) (fun j16 => if (decide (x6_3.2 = 0)) then (j16 true) else (if (decide ((a0.length : Int) ≤ fW .i64 (fW .i64 (a1 + 3) + x6_3.2))) then (j16 true) else ((nthS a0 (fW .i64 (fW .i64 (a1 + 3) + x6_3.2))).bind fun x7_17 => if (!decide (x7_17 = 125)) then (j16 true) else ((g50 k x6_3.1).bind fun x7_22 => j16 (!x7_22)))))) else (if (decide (x1_3 = 120)) then ((g60 k a0 (fW .i64 (a1 + 2)) (16 : Int) (2 : Int)).bind fun x8_3 => if (decide (x8_3.2 < 2)) then (some (((-1) : Int), (0 : Int))) else (some (x8_3.1, (4 : Int)))) else (if (decide (x1_3 = 94)) then (jn (fun (z17 : Bool) => if z17 then (some (((-1) : Int), (0 : Int))) else ((nthS a0 (fW .i64 (a1 + 2))).bind fun x11_3 => some (andI .i64 (fW .i64 x11_3) 31, (3 : Int)))) (fun j17 => if (decide ((a0.length : Int) ≤ fW .i64 (a1 + 2))) then (j17 true) else ((nthS a0 (fW .i64 (a1 + 2))).bind fun x9_9 => if (decide (64 ≤ x9_9)) then ((nthS a0 (fW .i64 (a1 + 2))).bind fun x9_15 => if (decide (x9_15 ≤ 95)) then (j17 false) else ((nthS a0 (fW .i64 (a1 + 2))).bind fun x9_22 => if (decide (97 ≤ x9_22)) then ((nthS a0 (fW .i64 (a1 + 2))).bind fun x9_28 => j17 (!(decide (x9_28 ≤ 122)))) else (j17 true))) else ((nthS a0 (fW .i64 (a1 + 2))).bind fun x9_22 => if (decide (97 ≤ x9_22)) then ((nthS a0 (fW .i64 (a1 + 2))).bind fun x9_28 => j17 (!(decide (x9_28 ≤ 122)))) else (j17 true))))) else ((g32 k a0 (fW .i64 (a1 + 1))).bind fun x10_3 => if (decide (x10_3.1 < 32)) then (some (((-1) : Int), (0 : Int))) else (some (x10_3.1, fW .i64 (1 + x10_3.2))))))) (fun j15 => if (decide (x1_3 = 120)) then (if (decide (fW .i64 (a1 + 2) < (a0.length : Int))) then ((nthS a0 (fW .i64 (a1 + 2))).bind fun x5_13 => j15 (decide (x5_13 = 123))) else (j15 false)) else (j15 false)))) (fun j14 => if (decide (48 ≤ x1_3)) then (j14 (decide (x1_3 ≤ 55))) else (j14 false)))) := rfl
theorem g46_l13_ok (k : Nat)  (a0 : (List Nat)) (a1 : Int) (x1_3 : Int)  : ∀ (n : Nat) (y13_0 : Int), Ok X46 g46p8 [(0, .str a0), (1, .int .i64 a1), (6, .int .u8 x1_3), (7, .str g46c1), (8, .vec (g46c0).length 1 ((g46c0).flatMap e3)), (9, .int .i64 y13_0)] (mkH []) (g46_l13 k a0 a1 x1_3 n y13_0)
 | 0, _ => ok_none
 | n + 1, y13_0 => by
  have ih := g46_l13_ok k a0 a1 x1_3 n
  rw [g46_l13_s]
  refine ok_ent (p' := nav [0] g46p8) (by kernel_rfl) ?_
  let E5 : Env := [(41, .bool (decide (y13_0 < 9))), (40, .int .i64 9), (39, .str g46c1), (38, .int .i64 y13_0), (0, .str a0), (1, .int .i64 a1), (6, .int .u8 x1_3), (7, .str g46c1), (8, .vec (g46c0).length 1 ((g46c0).flatMap e3)), (9, .int .i64 y13_0)]
  refine oR 8 (p' := g46p10) (eE := E5) (H' := (mkH [])) (by kernel_rfl) ?_
  refine oS 41 (b := decide (y13_0 < 9)) (by kernel_rfl) (fun hb => ?_) (fun hb => ?_)
  ·refine oR 8 (p' := (atN 2 (ctl1 g46p11))) (eE := ((45, .int .i64 y13_0) :: (44, .str g46c1) :: (41, .bool true) :: E5)) (H' := (mkH [])) (by kernel_rfl) ?_
   refine oH (fun (x3_2 : Int) => (.int .u8 x3_2, (mkH []))) (atN 3 (ctl1 g46p11)) (fun x3_2 => ((46, .int .u8 x3_2) :: (45, .int .i64 y13_0) :: (44, .str g46c1) :: (41, .bool true) :: E5)) (idxH (by kernel_rfl)) (fun _ => by kernel_rfl) (fun x3_2 hx3_2 => ?_)
   let E6 : Env := ((48, .bool (decide (x3_2 = x1_3))) :: (47, .int .u8 x1_3) :: (46, .int .u8 x3_2) :: (45, .int .i64 y13_0) :: (44, .str g46c1) :: (41, .bool true) :: E5)
   refine oR 3 (p' := g46p13) (eE := E6) (H' := (mkH [])) (by kernel_rfl) ?_
   refine oK [0, 1, 6, 7, 8, 9, 48] (eE := [(0, .str a0), (1, .int .i64 a1), (6, .int .u8 x1_3), (7, .str g46c1), (8, .vec (g46c0).length 1 ((g46c0).flatMap e3)), (9, .int .i64 y13_0), (48, .bool (decide (x3_2 = x1_3)))]) (by kernel_rfl) ?_
   refine oS 48 (b := decide (x3_2 = x1_3)) (by kernel_rfl) (fun hb => ?_) (fun hb => ?_)
   ·let E7 : Env := [(50, .int .i64 y13_0), (49, .vec (g46c0).length 1 ((g46c0).flatMap e3)), (48, .bool true), (0, .str a0), (1, .int .i64 a1), (6, .int .u8 x1_3), (7, .str g46c1), (8, .vec (g46c0).length 1 ((g46c0).flatMap e3)), (9, .int .i64 y13_0), (48, .bool (decide (x3_2 = x1_3)))]
    refine oR 5 (p' := (atN 2 (ctl1 g46p15))) (eE := E7) (H' := (mkH [])) (by kernel_rfl) ?_
    refine oH (fun (x2_2 : Int) => (.vptr [.int .i64 x2_2], (mkH []))) (atN 3 (ctl1 g46p15)) (fun x2_2 => ((51, .vptr [.int .i64 x2_2]) :: E7)) (vidxH (sz := 1) e3_len (by kernel_rfl)) (fun _ => by kernel_rfl) (fun x2_2 hx2_2 => ?_)
    refine oR 5 (p' := .fin) (eE := ((5, .int .i64 2) :: (4, .int .i64 x2_2) :: (52, .int .i64 x2_2) :: (51, .vptr [.int .i64 x2_2]) :: E7)) (H' := (mkH [])) (by kernel_rfl) ?_
    exact oT (r := (x2_2, (2 : Int))) (xs := [.int .i64 x2_2, .int .i64 2]) (v := .tuple [.int .i64 x2_2, .int .i64 2]) (by kernel_rfl) (by kernel_rfl) (by kernel_rfl) (.pures (by kernel_rfl)) (by kernel_rfl)
   ·let E8 : Env := [(9, .int .i64 (fW .i64 (y13_0 + 1))), (43, .int .i64 (fW .i64 (y13_0 + 1))), (42, .int .i64 y13_0), (48, .bool false), (0, .str a0), (1, .int .i64 a1), (6, .int .u8 x1_3), (7, .str g46c1), (8, .vec (g46c0).length 1 ((g46c0).flatMap e3)), (9, .int .i64 y13_0), (48, .bool (decide (x3_2 = x1_3)))]
    refine oR 7 (p' := g46p8) (eE := E8) (H' := (mkH [])) (by kernel_rfl) ?_
    refine oK [0, 1, 6, 7, 8, 9] (eE := [(0, .str a0), (1, .int .i64 a1), (6, .int .u8 x1_3), (7, .str g46c1), (8, .vec (g46c0).length 1 ((g46c0).flatMap e3)), (9, .int .i64 (fW .i64 (y13_0 + 1)))]) (by kernel_rfl) ?_
    exact ih (fW .i64 (y13_0 + 1))
  ·refine oR 9 (p' := (atN 3 (ctl1 g46p12))) (eE := ((56, .bool (decide (48 ≤ x1_3))) :: (55, .bool (decide (48 ≤ x1_3))) :: (54, .int .u8 x1_3) :: (41, .bool false) :: E5)) (H' := (mkH [])) (by kernel_rfl) ?_
   refine oJ (f := fun (z14 : Bool) => if z14 then ((g60 k a0 (fW .i64 (a1 + 1)) (8 : Int) (3 : Int)).bind fun x4_3 => some (x4_3.1, fW .i64 (1 + x4_3.2))) else (jn (fun (z15 : Bool) => if z15 then ((g60 k a0 (fW .i64 (a1 + 3)) (16 : Int) (6 : Int)).bind fun x6_3 => jn (fun (z16 : Bool) => if z16 then (some (((-1) : Int), (0 : Int))) else (some (x6_3.1, fW .i64 (4 + x6_3.2)))) (fun j16 => if (decide (x6_3.2 = 0)) then (j16 true) else (if (decide ((a0.length : Int) ≤ fW .i64 (fW .i64 (a1 + 3) + x6_3.2))) then (j16 true) else ((nthS a0 (fW .i64 (fW .i64 (a1 + 3) + x6_3.2))).bind fun x7_17 => if (!decide (x7_17 = 125)) then (j16 true) else ((g50 k x6_3.1).bind fun x7_22 => j16 (!x7_22)))))) else (if (decide (x1_3 = 120)) then ((g60 k a0 (fW .i64 (a1 + 2)) (16 : Int) (2 : Int)).bind fun x8_3 => if (decide (x8_3.2 < 2)) then (some (((-1) : Int), (0 : Int))) else (some (x8_3.1, (4 : Int)))) else (if (decide (x1_3 = 94)) then (jn (fun (z17 : Bool) => if z17 then (some (((-1) : Int), (0 : Int))) else ((nthS a0 (fW .i64 (a1 + 2))).bind fun x11_3 => some (andI .i64 (fW .i64 x11_3) 31, (3 : Int)))) (fun j17 => if (decide ((a0.length : Int) ≤ fW .i64 (a1 + 2))) then (j17 true) else ((nthS a0 (fW .i64 (a1 + 2))).bind fun x9_9 => if (decide (64 ≤ x9_9)) then ((nthS a0 (fW .i64 (a1 + 2))).bind fun x9_15 => if (decide (x9_15 ≤ 95)) then (j17 false) else ((nthS a0 (fW .i64 (a1 + 2))).bind fun x9_22 => if (decide (97 ≤ x9_22)) then ((nthS a0 (fW .i64 (a1 + 2))).bind fun x9_28 => j17 (!(decide (x9_28 ≤ 122)))) else (j17 true))) else ((nthS a0 (fW .i64 (a1 + 2))).bind fun x9_22 => if (decide (97 ≤ x9_22)) then ((nthS a0 (fW .i64 (a1 + 2))).bind fun x9_28 => j17 (!(decide (x9_28 ≤ 122)))) else (j17 true))))) else ((g32 k a0 (fW .i64 (a1 + 1))).bind fun x10_3 => if (decide (x10_3.1 < 32)) then (some (((-1) : Int), (0 : Int))) else (some (x10_3.1, fW .i64 (1 + x10_3.2))))))) (fun j15 => if (decide (x1_3 = 120)) then (if (decide (fW .i64 (a1 + 2) < (a0.length : Int))) then ((nthS a0 (fW .i64 (a1 + 2))).bind fun x5_13 => j15 (decide (x5_13 = 123))) else (j15 false)) else (j15 false)))) g46p14 (fun (z14 : Bool) => [(0, .str a0), (1, .int .i64 a1), (6, .int .u8 x1_3), (53, .bool z14)]) (fun (z14 : Bool) => (mkH [])) (fun z14 => ?_) (fun j14 hj14 => ?_)
   ·refine oS 53 (b := z14) (by kernel_rfl) (fun hb => ?_) (fun hb => ?_)
    ·let E9 : Env := [(63, .int .i64 (fW .i64 (a1 + 1))), (62, .int .i64 a1), (61, .str a0), (53, .bool true), (0, .str a0), (1, .int .i64 a1), (6, .int .u8 x1_3), (53, .bool z14)]
     refine oR 6 (p' := (atN 3 (ctl1 g46p17))) (eE := E9) (H' := (mkH [])) (by kernel_rfl) ?_
     refine oC (fun (x4_3 : (Int × Int)) => .tuple [.int .i64 x4_3.1, .int .i64 x4_3.2]) (atN 4 (ctl1 g46p17)) (fun x4_3 => ((64, .tuple [.int .i64 x4_3.1, .int .i64 x4_3.2]) :: E9)) (fi := 60) (args := [.str a0, .int .i64 (fW .i64 (a1 + 1)), .int .i64 8, .int .i64 3]) (by kernel_rfl) (by kernel_rfl) (fun _ => by kernel_rfl) (fun r h => g60_ok k a0 (fW .i64 (a1 + 1)) (8 : Int) (3 : Int) r h) (fun _ => by kernel_rfl) (fun x4_3 hx4_3 => ?_)
     let E10 : Env := ((11, .int .i64 x4_3.2) :: (10, .int .i64 x4_3.1) :: (66, .int .i64 x4_3.2) :: (65, .int .i64 x4_3.1) :: (60, .tuple [.int .i64 x4_3.1, .int .i64 x4_3.2]) :: (64, .tuple [.int .i64 x4_3.1, .int .i64 x4_3.2]) :: E9)
     refine oR 7 (p' := g46p19) (eE := E10) (H' := (mkH [])) (by kernel_rfl) ?_
     refine oK [10, 11] (eE := [(10, .int .i64 x4_3.1), (11, .int .i64 x4_3.2)]) (by kernel_rfl) ?_
     let E11 : Env := [(5, .int .i64 (fW .i64 (1 + x4_3.2))), (4, .int .i64 x4_3.1), (69, .int .i64 (fW .i64 (1 + x4_3.2))), (68, .int .i64 x4_3.2), (67, .int .i64 x4_3.1), (10, .int .i64 x4_3.1), (11, .int .i64 x4_3.2)]
     refine oR 8 (p' := .fin) (eE := E11) (H' := (mkH [])) (by kernel_rfl) ?_
     exact oT (r := (x4_3.1, fW .i64 (1 + x4_3.2))) (xs := [.int .i64 x4_3.1, .int .i64 (fW .i64 (1 + x4_3.2))]) (v := .tuple [.int .i64 x4_3.1, .int .i64 (fW .i64 (1 + x4_3.2))]) (by kernel_rfl) (by kernel_rfl) (by kernel_rfl) (.pures (by kernel_rfl)) (by kernel_rfl)
    ·let E12 : Env := [(73, .bool (decide (x1_3 = 120))), (72, .bool (decide (x1_3 = 120))), (71, .int .u8 x1_3), (53, .bool false), (0, .str a0), (1, .int .i64 a1), (6, .int .u8 x1_3), (53, .bool z14)]
     refine oR 6 (p' := (atN 3 (ctl1 g46p18))) (eE := E12) (H' := (mkH [])) (by kernel_rfl) ?_
     refine oJ (f := fun (z15 : Bool) => if z15 then ((g60 k a0 (fW .i64 (a1 + 3)) (16 : Int) (6 : Int)).bind fun x6_3 => jn (fun (z16 : Bool) => if z16 then (some (((-1) : Int), (0 : Int))) else (some (x6_3.1, fW .i64 (4 + x6_3.2)))) (fun j16 => if (decide (x6_3.2 = 0)) then (j16 true) else (if (decide ((a0.length : Int) ≤ fW .i64 (fW .i64 (a1 + 3) + x6_3.2))) then (j16 true) else ((nthS a0 (fW .i64 (fW .i64 (a1 + 3) + x6_3.2))).bind fun x7_17 => if (!decide (x7_17 = 125)) then (j16 true) else ((g50 k x6_3.1).bind fun x7_22 => j16 (!x7_22)))))) else (if (decide (x1_3 = 120)) then ((g60 k a0 (fW .i64 (a1 + 2)) (16 : Int) (2 : Int)).bind fun x8_3 => if (decide (x8_3.2 < 2)) then (some (((-1) : Int), (0 : Int))) else (some (x8_3.1, (4 : Int)))) else (if (decide (x1_3 = 94)) then (jn (fun (z17 : Bool) => if z17 then (some (((-1) : Int), (0 : Int))) else ((nthS a0 (fW .i64 (a1 + 2))).bind fun x11_3 => some (andI .i64 (fW .i64 x11_3) 31, (3 : Int)))) (fun j17 => if (decide ((a0.length : Int) ≤ fW .i64 (a1 + 2))) then (j17 true) else ((nthS a0 (fW .i64 (a1 + 2))).bind fun x9_9 => if (decide (64 ≤ x9_9)) then ((nthS a0 (fW .i64 (a1 + 2))).bind fun x9_15 => if (decide (x9_15 ≤ 95)) then (j17 false) else ((nthS a0 (fW .i64 (a1 + 2))).bind fun x9_22 => if (decide (97 ≤ x9_22)) then ((nthS a0 (fW .i64 (a1 + 2))).bind fun x9_28 => j17 (!(decide (x9_28 ≤ 122)))) else (j17 true))) else ((nthS a0 (fW .i64 (a1 + 2))).bind fun x9_22 => if (decide (97 ≤ x9_22)) then ((nthS a0 (fW .i64 (a1 + 2))).bind fun x9_28 => j17 (!(decide (x9_28 ≤ 122)))) else (j17 true))))) else ((g32 k a0 (fW .i64 (a1 + 1))).bind fun x10_3 => if (decide (x10_3.1 < 32)) then (some (((-1) : Int), (0 : Int))) else (some (x10_3.1, fW .i64 (1 + x10_3.2))))))) g46p20 (fun (z15 : Bool) => [(0, .str a0), (1, .int .i64 a1), (6, .int .u8 x1_3), (70, .bool z15)]) (fun (z15 : Bool) => (mkH [])) (fun z15 => ?_) (fun j15 hj15 => ?_)
     ·refine oS 70 (b := z15) (by kernel_rfl) (fun hb => ?_) (fun hb => ?_)
      ·let E13 : Env := [(90, .int .i64 (fW .i64 (a1 + 3))), (89, .int .i64 a1), (88, .str a0), (70, .bool true), (0, .str a0), (1, .int .i64 a1), (6, .int .u8 x1_3), (70, .bool z15)]
       refine oR 6 (p' := (atN 3 (ctl1 g46p21))) (eE := E13) (H' := (mkH [])) (by kernel_rfl) ?_
       refine oC (fun (x6_3 : (Int × Int)) => .tuple [.int .i64 x6_3.1, .int .i64 x6_3.2]) (atN 4 (ctl1 g46p21)) (fun x6_3 => ((91, .tuple [.int .i64 x6_3.1, .int .i64 x6_3.2]) :: E13)) (fi := 60) (args := [.str a0, .int .i64 (fW .i64 (a1 + 3)), .int .i64 16, .int .i64 6]) (by kernel_rfl) (by kernel_rfl) (fun _ => by kernel_rfl) (fun r h => g60_ok k a0 (fW .i64 (a1 + 3)) (16 : Int) (6 : Int) r h) (fun _ => by kernel_rfl) (fun x6_3 hx6_3 => ?_)
       let E14 : Env := ((13, .int .i64 x6_3.2) :: (12, .int .i64 x6_3.1) :: (93, .int .i64 x6_3.2) :: (92, .int .i64 x6_3.1) :: (87, .tuple [.int .i64 x6_3.1, .int .i64 x6_3.2]) :: (91, .tuple [.int .i64 x6_3.1, .int .i64 x6_3.2]) :: E13)
       refine oR 8 (p' := g46p23) (eE := E14) (H' := (mkH [])) (by kernel_rfl) ?_
       refine oK [0, 1, 12, 13] (eE := [(0, .str a0), (1, .int .i64 a1), (12, .int .i64 x6_3.1), (13, .int .i64 x6_3.2)]) (by kernel_rfl) ?_
       let E15 : Env := [(96, .bool (decide (x6_3.2 = 0))), (95, .bool (decide (x6_3.2 = 0))), (94, .int .i64 x6_3.2), (0, .str a0), (1, .int .i64 a1), (12, .int .i64 x6_3.1), (13, .int .i64 x6_3.2)]
       refine oR 4 (p' := (atN 3 (ctl1 g46p23))) (eE := E15) (H' := (mkH [])) (by kernel_rfl) ?_
       refine oJ (f := fun (z16 : Bool) => if z16 then (some (((-1) : Int), (0 : Int))) else (some (x6_3.1, fW .i64 (4 + x6_3.2)))) g46p25 (fun (z16 : Bool) => [(12, .int .i64 x6_3.1), (13, .int .i64 x6_3.2), (118, .bool z16)]) (fun (z16 : Bool) => (mkH [])) (fun z16 => ?_) (fun j16 hj16 => ?_)
       ·refine oS 118 (b := z16) (by kernel_rfl) (fun hb => ?_) (fun hb => ?_)
        ·let E16 : Env := [(5, .int .i64 0), (4, .int .i64 (-1)), (118, .bool true), (12, .int .i64 x6_3.1), (13, .int .i64 x6_3.2), (118, .bool z16)]
         refine oR 7 (p' := .fin) (eE := E16) (H' := (mkH [])) (by kernel_rfl) ?_
         exact oT (r := (((-1) : Int), (0 : Int))) (xs := [.int .i64 (-1), .int .i64 0]) (v := .tuple [.int .i64 (-1), .int .i64 0]) (by kernel_rfl) (by kernel_rfl) (by kernel_rfl) (.pures (by kernel_rfl)) (by kernel_rfl)
        ·let E17 : Env := [(5, .int .i64 (fW .i64 (4 + x6_3.2))), (4, .int .i64 x6_3.1), (121, .int .i64 (fW .i64 (4 + x6_3.2))), (120, .int .i64 x6_3.2), (119, .int .i64 x6_3.1), (118, .bool false), (12, .int .i64 x6_3.1), (13, .int .i64 x6_3.2), (118, .bool z16)]
         refine oR 11 (p' := .fin) (eE := E17) (H' := (mkH [])) (by kernel_rfl) ?_
         exact oT (r := (x6_3.1, fW .i64 (4 + x6_3.2))) (xs := [.int .i64 x6_3.1, .int .i64 (fW .i64 (4 + x6_3.2))]) (v := .tuple [.int .i64 x6_3.1, .int .i64 (fW .i64 (4 + x6_3.2))]) (by kernel_rfl) (by kernel_rfl) (by kernel_rfl) (.pures (by kernel_rfl)) (by kernel_rfl)
       ·refine oS 96 (b := decide (x6_3.2 = 0)) (by kernel_rfl) (fun hb => ?_) (fun hb => ?_)
        ·let E18 : Env := ((118, .bool true) :: (117, .tuple []) :: (116, .tuple []) :: (115, .tuple []) :: (114, .bool true) :: (113, .bool true) :: (112, .tuple []) :: (111, .tuple []) :: (110, .tuple []) :: (109, .tuple []) :: (108, .tuple []) :: (107, .tuple []) :: (106, .tuple []) :: (105, .bool true) :: (104, .bool true) :: (103, .tuple []) :: (102, .tuple []) :: (101, .tuple []) :: (100, .tuple []) :: (99, .tuple []) :: (98, .tuple []) :: (97, .tuple []) :: (96, .bool true) :: E15)
         refine oR 23 (p' := g46p25) (eE := E18) (H' := (mkH [])) (by kernel_rfl) ?_
         refine oK [12, 13, 118] (eE := [(12, .int .i64 x6_3.1), (13, .int .i64 x6_3.2), (118, .bool true)]) (by kernel_rfl) ?_
         exact hj16 true
        ·let E19 : Env := ((105, .bool (decide ((a0.length : Int) ≤ fW .i64 (fW .i64 (a1 + 3) + x6_3.2)))) :: (104, .bool (decide ((a0.length : Int) ≤ fW .i64 (fW .i64 (a1 + 3) + x6_3.2)))) :: (103, .bool (decide ((a0.length : Int) ≤ fW .i64 (fW .i64 (a1 + 3) + x6_3.2)))) :: (102, .int .i64 (a0.length : Int)) :: (101, .str a0) :: (100, .int .i64 (fW .i64 (fW .i64 (a1 + 3) + x6_3.2))) :: (99, .int .i64 x6_3.2) :: (98, .int .i64 (fW .i64 (a1 + 3))) :: (97, .int .i64 a1) :: (96, .bool false) :: E15)
         refine oR 9 (p' := (atN 12 (ctl1 g46p23))) (eE := E19) (H' := (mkH [])) (by kernel_rfl) ?_
         refine oS 105 (b := decide ((a0.length : Int) ≤ fW .i64 (fW .i64 (a1 + 3) + x6_3.2))) (by kernel_rfl) (fun hb => ?_) (fun hb => ?_)
         ·let E20 : Env := ((118, .bool true) :: (117, .tuple []) :: (116, .tuple []) :: (115, .tuple []) :: (114, .bool true) :: (113, .bool true) :: (112, .tuple []) :: (111, .tuple []) :: (110, .tuple []) :: (109, .tuple []) :: (108, .tuple []) :: (107, .tuple []) :: (106, .tuple []) :: (105, .bool true) :: E19)
          refine oR 14 (p' := g46p25) (eE := E20) (H' := (mkH [])) (by kernel_rfl) ?_
          refine oK [12, 13, 118] (eE := [(12, .int .i64 x6_3.1), (13, .int .i64 x6_3.2), (118, .bool true)]) (by kernel_rfl) ?_
          exact hj16 true
         ·let E21 : Env := ((110, .int .i64 (fW .i64 (fW .i64 (a1 + 3) + x6_3.2))) :: (109, .int .i64 x6_3.2) :: (108, .int .i64 (fW .i64 (a1 + 3))) :: (107, .int .i64 a1) :: (106, .str a0) :: (105, .bool false) :: E19)
          refine oR 5 (p' := (atN 17 (ctl1 g46p23))) (eE := E21) (H' := (mkH [])) (by kernel_rfl) ?_
          refine oH (fun (x7_17 : Int) => (.int .u8 x7_17, (mkH []))) (atN 18 (ctl1 g46p23)) (fun x7_17 => ((111, .int .u8 x7_17) :: E21)) (idxH (by kernel_rfl)) (fun _ => by kernel_rfl) (fun x7_17 hx7_17 => ?_)
          refine oR 3 (p' := (atN 21 (ctl1 g46p23))) (eE := ((114, .bool (!decide (x7_17 = 125))) :: (113, .bool (!decide (x7_17 = 125))) :: (112, .bool (!decide (x7_17 = 125))) :: (111, .int .u8 x7_17) :: E21)) (H' := (mkH [])) (by kernel_rfl) ?_
          refine oS 114 (b := !decide (x7_17 = 125)) (by kernel_rfl) (fun hb => ?_) (fun hb => ?_)
          ·let E22 : Env := ((118, .bool true) :: (117, .tuple []) :: (116, .tuple []) :: (115, .tuple []) :: (114, .bool true) :: (114, .bool (!decide (x7_17 = 125))) :: (113, .bool (!decide (x7_17 = 125))) :: (112, .bool (!decide (x7_17 = 125))) :: (111, .int .u8 x7_17) :: E21)
           refine oR 5 (p' := g46p25) (eE := E22) (H' := (mkH [])) (by kernel_rfl) ?_
           refine oK [12, 13, 118] (eE := [(12, .int .i64 x6_3.1), (13, .int .i64 x6_3.2), (118, .bool true)]) (by kernel_rfl) ?_
           exact hj16 true
          ·let E23 : Env := ((115, .int .i64 x6_3.1) :: (114, .bool false) :: (114, .bool (!decide (x7_17 = 125))) :: (113, .bool (!decide (x7_17 = 125))) :: (112, .bool (!decide (x7_17 = 125))) :: (111, .int .u8 x7_17) :: E21)
           refine oR 1 (p' := (atN 22 (ctl1 g46p23))) (eE := E23) (H' := (mkH [])) (by kernel_rfl) ?_
           refine oC (fun (x7_22 : Bool) => .bool x7_22) (atN 23 (ctl1 g46p23)) (fun x7_22 => ((116, .bool x7_22) :: E23)) (fi := 50) (args := [.int .i64 x6_3.1]) (by kernel_rfl) (by kernel_rfl) (fun _ => by kernel_rfl) (fun r h => g50_ok k x6_3.1 r h) (fun _ => by kernel_rfl) (fun x7_22 hx7_22 => ?_)
           refine oR 3 (p' := g46p25) (eE := ((118, .bool (!x7_22)) :: (117, .bool (!x7_22)) :: (116, .bool x7_22) :: E23)) (H' := (mkH [])) (by kernel_rfl) ?_
           refine oK [12, 13, 118] (eE := [(12, .int .i64 x6_3.1), (13, .int .i64 x6_3.2), (118, .bool (!x7_22))]) (by kernel_rfl) ?_
           exact hj16 (!x7_22)
      ·let E24 : Env := [(122, .bool (decide (x1_3 = 120))), (124, .bool (decide (x1_3 = 120))), (123, .int .u8 x1_3), (70, .bool false), (0, .str a0), (1, .int .i64 a1), (6, .int .u8 x1_3), (70, .bool z15)]
       refine oR 7 (p' := g46p24) (eE := E24) (H' := (mkH [])) (by kernel_rfl) ?_
       refine oS 122 (b := decide (x1_3 = 120)) (by kernel_rfl) (fun hb => ?_) (fun hb => ?_)
       ·refine oR 6 (p' := (atN 3 (ctl1 g46p26))) (eE := ((128, .int .i64 (fW .i64 (a1 + 2))) :: (127, .int .i64 a1) :: (126, .str a0) :: (122, .bool true) :: E24)) (H' := (mkH [])) (by kernel_rfl) ?_
        refine oC (fun (x8_3 : (Int × Int)) => .tuple [.int .i64 x8_3.1, .int .i64 x8_3.2]) (atN 4 (ctl1 g46p26)) (fun x8_3 => ((129, .tuple [.int .i64 x8_3.1, .int .i64 x8_3.2]) :: (128, .int .i64 (fW .i64 (a1 + 2))) :: (127, .int .i64 a1) :: (126, .str a0) :: (122, .bool true) :: E24)) (fi := 60) (args := [.str a0, .int .i64 (fW .i64 (a1 + 2)), .int .i64 16, .int .i64 2]) (by kernel_rfl) (by kernel_rfl) (fun _ => by kernel_rfl) (fun r h => g60_ok k a0 (fW .i64 (a1 + 2)) (16 : Int) (2 : Int) r h) (fun _ => by kernel_rfl) (fun x8_3 hx8_3 => ?_)
        let E25 : Env := ((15, .int .i64 x8_3.2) :: (14, .int .i64 x8_3.1) :: (131, .int .i64 x8_3.2) :: (130, .int .i64 x8_3.1) :: (125, .tuple [.int .i64 x8_3.1, .int .i64 x8_3.2]) :: (129, .tuple [.int .i64 x8_3.1, .int .i64 x8_3.2]) :: (128, .int .i64 (fW .i64 (a1 + 2))) :: (127, .int .i64 a1) :: (126, .str a0) :: (122, .bool true) :: E24)
        refine oR 8 (p' := g46p30) (eE := E25) (H' := (mkH [])) (by kernel_rfl) ?_
        refine oK [14, 15] (eE := [(14, .int .i64 x8_3.1), (15, .int .i64 x8_3.2)]) (by kernel_rfl) ?_
        refine oR 4 (p' := g46p32) (eE := [(133, .bool (decide (x8_3.2 < 2))), (132, .int .i64 x8_3.2), (14, .int .i64 x8_3.1), (15, .int .i64 x8_3.2)]) (H' := (mkH [])) (by kernel_rfl) ?_
        refine oS 133 (b := decide (x8_3.2 < 2)) (by kernel_rfl) (fun hb => ?_) (fun hb => ?_)
        ·let E26 : Env := [(5, .int .i64 0), (4, .int .i64 (-1)), (133, .bool true), (133, .bool (decide (x8_3.2 < 2))), (132, .int .i64 x8_3.2), (14, .int .i64 x8_3.1), (15, .int .i64 x8_3.2)]
         refine oR 7 (p' := .fin) (eE := E26) (H' := (mkH [])) (by kernel_rfl) ?_
         exact oT (r := (((-1) : Int), (0 : Int))) (xs := [.int .i64 (-1), .int .i64 0]) (v := .tuple [.int .i64 (-1), .int .i64 0]) (by kernel_rfl) (by kernel_rfl) (by kernel_rfl) (.pures (by kernel_rfl)) (by kernel_rfl)
        ·let E27 : Env := [(5, .int .i64 4), (4, .int .i64 x8_3.1), (134, .int .i64 x8_3.1), (133, .bool false), (133, .bool (decide (x8_3.2 < 2))), (132, .int .i64 x8_3.2), (14, .int .i64 x8_3.1), (15, .int .i64 x8_3.2)]
         refine oR 9 (p' := .fin) (eE := E27) (H' := (mkH [])) (by kernel_rfl) ?_
         exact oT (r := (x8_3.1, (4 : Int))) (xs := [.int .i64 x8_3.1, .int .i64 4]) (v := .tuple [.int .i64 x8_3.1, .int .i64 4]) (by kernel_rfl) (by kernel_rfl) (by kernel_rfl) (.pures (by kernel_rfl)) (by kernel_rfl)
       ·refine oR 7 (p' := g46p31) (eE := ((135, .bool (decide (x1_3 = 94))) :: (137, .bool (decide (x1_3 = 94))) :: (136, .int .u8 x1_3) :: (122, .bool false) :: E24)) (H' := (mkH [])) (by kernel_rfl) ?_
        refine oK [0, 1, 135] (eE := [(0, .str a0), (1, .int .i64 a1), (135, .bool (decide (x1_3 = 94)))]) (by kernel_rfl) ?_
        refine oS 135 (b := decide (x1_3 = 94)) (by kernel_rfl) (fun hb => ?_) (fun hb => ?_)
        ·let E28 : Env := [(143, .bool (decide ((a0.length : Int) ≤ fW .i64 (a1 + 2)))), (142, .bool (decide ((a0.length : Int) ≤ fW .i64 (a1 + 2)))), (141, .int .i64 (a0.length : Int)), (140, .str a0), (139, .int .i64 (fW .i64 (a1 + 2))), (138, .int .i64 a1), (135, .bool true), (0, .str a0), (1, .int .i64 a1), (135, .bool (decide (x1_3 = 94)))]
         refine oR 10 (p' := (atN 6 (ctl1 g46p33))) (eE := E28) (H' := (mkH [])) (by kernel_rfl) ?_
         refine oJ (f := fun (z17 : Bool) => if z17 then (some (((-1) : Int), (0 : Int))) else ((nthS a0 (fW .i64 (a1 + 2))).bind fun x11_3 => some (andI .i64 (fW .i64 x11_3) 31, (3 : Int)))) g46p37 (fun (z17 : Bool) => [(0, .str a0), (1, .int .i64 a1), (171, .bool z17)]) (fun (z17 : Bool) => (mkH [])) (fun z17 => ?_) (fun j17 hj17 => ?_)
         ·refine oS 171 (b := z17) (by kernel_rfl) (fun hb => ?_) (fun hb => ?_)
          ·let E29 : Env := [(5, .int .i64 0), (4, .int .i64 (-1)), (171, .bool true), (0, .str a0), (1, .int .i64 a1), (171, .bool z17)]
           refine oR 7 (p' := .fin) (eE := E29) (H' := (mkH [])) (by kernel_rfl) ?_
           exact oT (r := (((-1) : Int), (0 : Int))) (xs := [.int .i64 (-1), .int .i64 0]) (v := .tuple [.int .i64 (-1), .int .i64 0]) (by kernel_rfl) (by kernel_rfl) (by kernel_rfl) (.pures (by kernel_rfl)) (by kernel_rfl)
          ·let E30 : Env := [(174, .int .i64 (fW .i64 (a1 + 2))), (173, .int .i64 a1), (172, .str a0), (171, .bool false), (0, .str a0), (1, .int .i64 a1), (171, .bool z17)]
           refine oR 7 (p' := (atN 3 (ctl1 g46p40))) (eE := E30) (H' := (mkH [])) (by kernel_rfl) ?_
           refine oH (fun (x11_3 : Int) => (.int .u8 x11_3, (mkH []))) (atN 4 (ctl1 g46p40)) (fun x11_3 => ((175, .int .u8 x11_3) :: E30)) (idxH (by kernel_rfl)) (fun _ => by kernel_rfl) (fun x11_3 hx11_3 => ?_)
           let E31 : Env := ((5, .int .i64 3) :: (4, .int .i64 (andI .i64 (fW .i64 x11_3) 31)) :: (177, .int .i64 (andI .i64 (fW .i64 x11_3) 31)) :: (176, .int .i64 (fW .i64 x11_3)) :: (175, .int .u8 x11_3) :: E30)
           refine oR 6 (p' := .fin) (eE := E31) (H' := (mkH [])) (by kernel_rfl) ?_
           exact oT (r := (andI .i64 (fW .i64 x11_3) 31, (3 : Int))) (xs := [.int .i64 (andI .i64 (fW .i64 x11_3) 31), .int .i64 3]) (v := .tuple [.int .i64 (andI .i64 (fW .i64 x11_3) 31), .int .i64 3]) (by kernel_rfl) (by kernel_rfl) (by kernel_rfl) (.pures (by kernel_rfl)) (by kernel_rfl)
         ·refine oS 143 (b := decide ((a0.length : Int) ≤ fW .i64 (a1 + 2))) (by kernel_rfl) (fun hb => ?_) (fun hb => ?_)
          ·let E32 : Env := ((171, .bool true) :: (170, .tuple []) :: (169, .tuple []) :: (168, .tuple []) :: (167, .tuple []) :: (166, .tuple []) :: (165, .tuple []) :: (164, .tuple []) :: (163, .tuple []) :: (162, .tuple []) :: (161, .tuple []) :: (160, .tuple []) :: (159, .tuple []) :: (158, .tuple []) :: (157, .tuple []) :: (156, .tuple []) :: (155, .tuple []) :: (154, .tuple []) :: (153, .tuple []) :: (152, .tuple []) :: (151, .tuple []) :: (150, .tuple []) :: (149, .tuple []) :: (148, .tuple []) :: (147, .tuple []) :: (146, .tuple []) :: (145, .tuple []) :: (144, .tuple []) :: (143, .bool true) :: E28)
           refine oR 29 (p' := g46p37) (eE := E32) (H' := (mkH [])) (by kernel_rfl) ?_
           refine oK [0, 1, 171] (eE := [(0, .str a0), (1, .int .i64 a1), (171, .bool true)]) (by kernel_rfl) ?_
           exact hj17 true
          ·refine oR 3 (p' := (atN 9 (ctl1 g46p33))) (eE := ((146, .int .i64 (fW .i64 (a1 + 2))) :: (145, .int .i64 a1) :: (144, .str a0) :: (143, .bool false) :: E28)) (H' := (mkH [])) (by kernel_rfl) ?_
           refine oH (fun (x9_9 : Int) => (.int .u8 x9_9, (mkH []))) (atN 10 (ctl1 g46p33)) (fun x9_9 => ((147, .int .u8 x9_9) :: (146, .int .i64 (fW .i64 (a1 + 2))) :: (145, .int .i64 a1) :: (144, .str a0) :: (143, .bool false) :: E28)) (idxH (by kernel_rfl)) (fun _ => by kernel_rfl) (fun x9_9 hx9_9 => ?_)
           let E33 : Env := ((149, .bool (decide (64 ≤ x9_9))) :: (148, .bool (decide (64 ≤ x9_9))) :: (147, .int .u8 x9_9) :: (146, .int .i64 (fW .i64 (a1 + 2))) :: (145, .int .i64 a1) :: (144, .str a0) :: (143, .bool false) :: E28)
           refine oR 2 (p' := (atN 12 (ctl1 g46p33))) (eE := E33) (H' := (mkH [])) (by kernel_rfl) ?_
           refine oS 149 (b := decide (64 ≤ x9_9)) (by kernel_rfl) (fun hb => ?_) (fun hb => ?_)
           ·refine oR 3 (p' := (atN 15 (ctl1 g46p33))) (eE := ((152, .int .i64 (fW .i64 (a1 + 2))) :: (151, .int .i64 a1) :: (150, .str a0) :: (149, .bool true) :: E33)) (H' := (mkH [])) (by kernel_rfl) ?_
            refine oH (fun (x9_15 : Int) => (.int .u8 x9_15, (mkH []))) (atN 16 (ctl1 g46p33)) (fun x9_15 => ((153, .int .u8 x9_15) :: (152, .int .i64 (fW .i64 (a1 + 2))) :: (151, .int .i64 a1) :: (150, .str a0) :: (149, .bool true) :: E33)) (idxH (by kernel_rfl)) (fun _ => by kernel_rfl) (fun x9_15 hx9_15 => ?_)
            let E34 : Env := ((156, .bool (decide (x9_15 ≤ 95))) :: (155, .bool (decide (x9_15 ≤ 95))) :: (154, .bool (decide (x9_15 ≤ 95))) :: (153, .int .u8 x9_15) :: (152, .int .i64 (fW .i64 (a1 + 2))) :: (151, .int .i64 a1) :: (150, .str a0) :: (149, .bool true) :: E33)
            refine oR 3 (p' := (atN 19 (ctl1 g46p33))) (eE := E34) (H' := (mkH [])) (by kernel_rfl) ?_
            refine oS 156 (b := decide (x9_15 ≤ 95)) (by kernel_rfl) (fun hb => ?_) (fun hb => ?_)
            ·let E35 : Env := ((171, .bool false) :: (170, .bool false) :: (169, .bool true) :: (168, .tuple []) :: (167, .tuple []) :: (166, .tuple []) :: (165, .tuple []) :: (164, .tuple []) :: (163, .tuple []) :: (162, .tuple []) :: (161, .tuple []) :: (160, .tuple []) :: (159, .tuple []) :: (158, .tuple []) :: (157, .tuple []) :: (156, .bool true) :: E34)
             refine oR 16 (p' := g46p37) (eE := E35) (H' := (mkH [])) (by kernel_rfl) ?_
             refine oK [0, 1, 171] (eE := [(0, .str a0), (1, .int .i64 a1), (171, .bool false)]) (by kernel_rfl) ?_
             exact hj17 false
            ·refine oR 3 (p' := (atN 22 (ctl1 g46p33))) (eE := ((159, .int .i64 (fW .i64 (a1 + 2))) :: (158, .int .i64 a1) :: (157, .str a0) :: (156, .bool false) :: E34)) (H' := (mkH [])) (by kernel_rfl) ?_
             refine oH (fun (x9_22 : Int) => (.int .u8 x9_22, (mkH []))) (atN 23 (ctl1 g46p33)) (fun x9_22 => ((160, .int .u8 x9_22) :: (159, .int .i64 (fW .i64 (a1 + 2))) :: (158, .int .i64 a1) :: (157, .str a0) :: (156, .bool false) :: E34)) (idxH (by kernel_rfl)) (fun _ => by kernel_rfl) (fun x9_22 hx9_22 => ?_)
             let E36 : Env := ((162, .bool (decide (97 ≤ x9_22))) :: (161, .bool (decide (97 ≤ x9_22))) :: (160, .int .u8 x9_22) :: (159, .int .i64 (fW .i64 (a1 + 2))) :: (158, .int .i64 a1) :: (157, .str a0) :: (156, .bool false) :: E34)
             refine oR 2 (p' := (atN 25 (ctl1 g46p33))) (eE := E36) (H' := (mkH [])) (by kernel_rfl) ?_
             refine oS 162 (b := decide (97 ≤ x9_22)) (by kernel_rfl) (fun hb => ?_) (fun hb => ?_)
             ·refine oR 3 (p' := (atN 28 (ctl1 g46p33))) (eE := ((165, .int .i64 (fW .i64 (a1 + 2))) :: (164, .int .i64 a1) :: (163, .str a0) :: (162, .bool true) :: E36)) (H' := (mkH [])) (by kernel_rfl) ?_
              refine oH (fun (x9_28 : Int) => (.int .u8 x9_28, (mkH []))) (atN 29 (ctl1 g46p33)) (fun x9_28 => ((166, .int .u8 x9_28) :: (165, .int .i64 (fW .i64 (a1 + 2))) :: (164, .int .i64 a1) :: (163, .str a0) :: (162, .bool true) :: E36)) (idxH (by kernel_rfl)) (fun _ => by kernel_rfl) (fun x9_28 hx9_28 => ?_)
              let E37 : Env := ((171, .bool (!(decide (x9_28 ≤ 122)))) :: (170, .bool (!(decide (x9_28 ≤ 122)))) :: (169, .bool (decide (x9_28 ≤ 122))) :: (168, .bool (decide (x9_28 ≤ 122))) :: (167, .bool (decide (x9_28 ≤ 122))) :: (166, .int .u8 x9_28) :: (165, .int .i64 (fW .i64 (a1 + 2))) :: (164, .int .i64 a1) :: (163, .str a0) :: (162, .bool true) :: E36)
              refine oR 6 (p' := g46p37) (eE := E37) (H' := (mkH [])) (by kernel_rfl) ?_
              refine oK [0, 1, 171] (eE := [(0, .str a0), (1, .int .i64 a1), (171, .bool (!(decide (x9_28 ≤ 122))))]) (by kernel_rfl) ?_
              exact hj17 (!(decide (x9_28 ≤ 122)))
             ·let E38 : Env := ((171, .bool true) :: (170, .bool true) :: (169, .bool false) :: (168, .bool false) :: (167, .tuple []) :: (166, .tuple []) :: (165, .tuple []) :: (164, .tuple []) :: (163, .tuple []) :: (162, .bool false) :: E36)
              refine oR 10 (p' := g46p37) (eE := E38) (H' := (mkH [])) (by kernel_rfl) ?_
              refine oK [0, 1, 171] (eE := [(0, .str a0), (1, .int .i64 a1), (171, .bool true)]) (by kernel_rfl) ?_
              exact hj17 true
           ·let E39 : Env := ((159, .int .i64 (fW .i64 (a1 + 2))) :: (158, .int .i64 a1) :: (157, .str a0) :: (156, .bool false) :: (155, .bool false) :: (154, .tuple []) :: (153, .tuple []) :: (152, .tuple []) :: (151, .tuple []) :: (150, .tuple []) :: (149, .bool false) :: E33)
            refine oR 10 (p' := (atN 22 (ctl1 g46p33))) (eE := E39) (H' := (mkH [])) (by kernel_rfl) ?_
            refine oH (fun (x9_22 : Int) => (.int .u8 x9_22, (mkH []))) (atN 23 (ctl1 g46p33)) (fun x9_22 => ((160, .int .u8 x9_22) :: E39)) (idxH (by kernel_rfl)) (fun _ => by kernel_rfl) (fun x9_22 hx9_22 => ?_)
            refine oR 2 (p' := (atN 25 (ctl1 g46p33))) (eE := ((162, .bool (decide (97 ≤ x9_22))) :: (161, .bool (decide (97 ≤ x9_22))) :: (160, .int .u8 x9_22) :: E39)) (H' := (mkH [])) (by kernel_rfl) ?_
            refine oS 162 (b := decide (97 ≤ x9_22)) (by kernel_rfl) (fun hb => ?_) (fun hb => ?_)
            ·let E40 : Env := ((165, .int .i64 (fW .i64 (a1 + 2))) :: (164, .int .i64 a1) :: (163, .str a0) :: (162, .bool true) :: (162, .bool (decide (97 ≤ x9_22))) :: (161, .bool (decide (97 ≤ x9_22))) :: (160, .int .u8 x9_22) :: E39)
             refine oR 3 (p' := (atN 28 (ctl1 g46p33))) (eE := E40) (H' := (mkH [])) (by kernel_rfl) ?_
             refine oH (fun (x9_28 : Int) => (.int .u8 x9_28, (mkH []))) (atN 29 (ctl1 g46p33)) (fun x9_28 => ((166, .int .u8 x9_28) :: E40)) (idxH (by kernel_rfl)) (fun _ => by kernel_rfl) (fun x9_28 hx9_28 => ?_)
             let E41 : Env := ((171, .bool (!(decide (x9_28 ≤ 122)))) :: (170, .bool (!(decide (x9_28 ≤ 122)))) :: (169, .bool (decide (x9_28 ≤ 122))) :: (168, .bool (decide (x9_28 ≤ 122))) :: (167, .bool (decide (x9_28 ≤ 122))) :: (166, .int .u8 x9_28) :: E40)
             refine oR 6 (p' := g46p37) (eE := E41) (H' := (mkH [])) (by kernel_rfl) ?_
             refine oK [0, 1, 171] (eE := [(0, .str a0), (1, .int .i64 a1), (171, .bool (!(decide (x9_28 ≤ 122))))]) (by kernel_rfl) ?_
             exact hj17 (!(decide (x9_28 ≤ 122)))
            ·let E42 : Env := ((171, .bool true) :: (170, .bool true) :: (169, .bool false) :: (168, .bool false) :: (167, .tuple []) :: (166, .tuple []) :: (165, .tuple []) :: (164, .tuple []) :: (163, .tuple []) :: (162, .bool false) :: (162, .bool (decide (97 ≤ x9_22))) :: (161, .bool (decide (97 ≤ x9_22))) :: (160, .int .u8 x9_22) :: E39)
             refine oR 10 (p' := g46p37) (eE := E42) (H' := (mkH [])) (by kernel_rfl) ?_
             refine oK [0, 1, 171] (eE := [(0, .str a0), (1, .int .i64 a1), (171, .bool true)]) (by kernel_rfl) ?_
             exact hj17 true
        ·let E43 : Env := [(181, .int .i64 (fW .i64 (a1 + 1))), (180, .int .i64 a1), (179, .str a0), (135, .bool false), (0, .str a0), (1, .int .i64 a1), (135, .bool (decide (x1_3 = 94)))]
         refine oR 7 (p' := (atN 3 (ctl1 g46p34))) (eE := E43) (H' := (mkH [])) (by kernel_rfl) ?_
         refine oC (fun (x10_3 : (Int × Int)) => .tuple [.int .i64 x10_3.1, .int .i64 x10_3.2]) (atN 4 (ctl1 g46p34)) (fun x10_3 => ((182, .tuple [.int .i64 x10_3.1, .int .i64 x10_3.2]) :: E43)) (fi := 32) (args := [.str a0, .int .i64 (fW .i64 (a1 + 1))]) (by kernel_rfl) (by kernel_rfl) (fun _ => by kernel_rfl) (fun r h => g32_ok k a0 (fW .i64 (a1 + 1)) r h) (fun _ => by kernel_rfl) (fun x10_3 hx10_3 => ?_)
         let E44 : Env := ((17, .int .i64 x10_3.2) :: (16, .int .i64 x10_3.1) :: (184, .int .i64 x10_3.2) :: (183, .int .i64 x10_3.1) :: (178, .tuple [.int .i64 x10_3.1, .int .i64 x10_3.2]) :: (182, .tuple [.int .i64 x10_3.1, .int .i64 x10_3.2]) :: E43)
         refine oR 8 (p' := g46p38) (eE := E44) (H' := (mkH [])) (by kernel_rfl) ?_
         refine oK [16, 17] (eE := [(16, .int .i64 x10_3.1), (17, .int .i64 x10_3.2)]) (by kernel_rfl) ?_
         refine oR 4 (p' := g46p41) (eE := [(186, .bool (decide (x10_3.1 < 32))), (185, .int .i64 x10_3.1), (16, .int .i64 x10_3.1), (17, .int .i64 x10_3.2)]) (H' := (mkH [])) (by kernel_rfl) ?_
         refine oS 186 (b := decide (x10_3.1 < 32)) (by kernel_rfl) (fun hb => ?_) (fun hb => ?_)
         ·let E45 : Env := [(5, .int .i64 0), (4, .int .i64 (-1)), (186, .bool true), (186, .bool (decide (x10_3.1 < 32))), (185, .int .i64 x10_3.1), (16, .int .i64 x10_3.1), (17, .int .i64 x10_3.2)]
          refine oR 7 (p' := .fin) (eE := E45) (H' := (mkH [])) (by kernel_rfl) ?_
          exact oT (r := (((-1) : Int), (0 : Int))) (xs := [.int .i64 (-1), .int .i64 0]) (v := .tuple [.int .i64 (-1), .int .i64 0]) (by kernel_rfl) (by kernel_rfl) (by kernel_rfl) (.pures (by kernel_rfl)) (by kernel_rfl)
         ·let E46 : Env := [(5, .int .i64 (fW .i64 (1 + x10_3.2))), (4, .int .i64 x10_3.1), (189, .int .i64 (fW .i64 (1 + x10_3.2))), (188, .int .i64 x10_3.2), (187, .int .i64 x10_3.1), (186, .bool false), (186, .bool (decide (x10_3.1 < 32))), (185, .int .i64 x10_3.1), (16, .int .i64 x10_3.1), (17, .int .i64 x10_3.2)]
          refine oR 11 (p' := .fin) (eE := E46) (H' := (mkH [])) (by kernel_rfl) ?_
          exact oT (r := (x10_3.1, fW .i64 (1 + x10_3.2))) (xs := [.int .i64 x10_3.1, .int .i64 (fW .i64 (1 + x10_3.2))]) (v := .tuple [.int .i64 x10_3.1, .int .i64 (fW .i64 (1 + x10_3.2))]) (by kernel_rfl) (by kernel_rfl) (by kernel_rfl) (.pures (by kernel_rfl)) (by kernel_rfl)
     ·refine oS 73 (b := decide (x1_3 = 120)) (by kernel_rfl) (fun hb => ?_) (fun hb => ?_)
      ·let E47 : Env := ((80, .bool (decide (fW .i64 (a1 + 2) < (a0.length : Int)))) :: (79, .bool (decide (fW .i64 (a1 + 2) < (a0.length : Int)))) :: (78, .bool (decide (fW .i64 (a1 + 2) < (a0.length : Int)))) :: (77, .int .i64 (a0.length : Int)) :: (76, .str a0) :: (75, .int .i64 (fW .i64 (a1 + 2))) :: (74, .int .i64 a1) :: (73, .bool true) :: E12)
       refine oR 7 (p' := (atN 10 (ctl1 g46p18))) (eE := E47) (H' := (mkH [])) (by kernel_rfl) ?_
       refine oS 80 (b := decide (fW .i64 (a1 + 2) < (a0.length : Int))) (by kernel_rfl) (fun hb => ?_) (fun hb => ?_)
       ·refine oR 3 (p' := (atN 13 (ctl1 g46p18))) (eE := ((83, .int .i64 (fW .i64 (a1 + 2))) :: (82, .int .i64 a1) :: (81, .str a0) :: (80, .bool true) :: E47)) (H' := (mkH [])) (by kernel_rfl) ?_
        refine oH (fun (x5_13 : Int) => (.int .u8 x5_13, (mkH []))) (atN 14 (ctl1 g46p18)) (fun x5_13 => ((84, .int .u8 x5_13) :: (83, .int .i64 (fW .i64 (a1 + 2))) :: (82, .int .i64 a1) :: (81, .str a0) :: (80, .bool true) :: E47)) (idxH (by kernel_rfl)) (fun _ => by kernel_rfl) (fun x5_13 hx5_13 => ?_)
        let E48 : Env := ((70, .bool (decide (x5_13 = 123))) :: (86, .bool (decide (x5_13 = 123))) :: (85, .bool (decide (x5_13 = 123))) :: (84, .int .u8 x5_13) :: (83, .int .i64 (fW .i64 (a1 + 2))) :: (82, .int .i64 a1) :: (81, .str a0) :: (80, .bool true) :: E47)
        refine oR 4 (p' := g46p20) (eE := E48) (H' := (mkH [])) (by kernel_rfl) ?_
        refine oK [0, 1, 6, 70] (eE := [(0, .str a0), (1, .int .i64 a1), (6, .int .u8 x1_3), (70, .bool (decide (x5_13 = 123)))]) (by kernel_rfl) ?_
        exact hj15 (decide (x5_13 = 123))
       ·let E49 : Env := ((70, .bool false) :: (86, .bool false) :: (85, .tuple []) :: (84, .tuple []) :: (83, .tuple []) :: (82, .tuple []) :: (81, .tuple []) :: (80, .bool false) :: E47)
        refine oR 8 (p' := g46p20) (eE := E49) (H' := (mkH [])) (by kernel_rfl) ?_
        refine oK [0, 1, 6, 70] (eE := [(0, .str a0), (1, .int .i64 a1), (6, .int .u8 x1_3), (70, .bool false)]) (by kernel_rfl) ?_
        exact hj15 false
      ·let E50 : Env := ((70, .bool false) :: (86, .bool false) :: (85, .tuple []) :: (84, .tuple []) :: (83, .tuple []) :: (82, .tuple []) :: (81, .tuple []) :: (80, .bool false) :: (79, .bool false) :: (78, .tuple []) :: (77, .tuple []) :: (76, .tuple []) :: (75, .tuple []) :: (74, .tuple []) :: (73, .bool false) :: E12)
       refine oR 15 (p' := g46p20) (eE := E50) (H' := (mkH [])) (by kernel_rfl) ?_
       refine oK [0, 1, 6, 70] (eE := [(0, .str a0), (1, .int .i64 a1), (6, .int .u8 x1_3), (70, .bool false)]) (by kernel_rfl) ?_
       exact hj15 false
   ·refine oS 56 (b := decide (48 ≤ x1_3)) (by kernel_rfl) (fun hb => ?_) (fun hb => ?_)
    ·let E51 : Env := ((53, .bool (decide (x1_3 ≤ 55))) :: (59, .bool (decide (x1_3 ≤ 55))) :: (58, .bool (decide (x1_3 ≤ 55))) :: (57, .int .u8 x1_3) :: (56, .bool true) :: (56, .bool (decide (48 ≤ x1_3))) :: (55, .bool (decide (48 ≤ x1_3))) :: (54, .int .u8 x1_3) :: (41, .bool false) :: E5)
     refine oR 5 (p' := g46p14) (eE := E51) (H' := (mkH [])) (by kernel_rfl) ?_
     refine oK [0, 1, 6, 53] (eE := [(0, .str a0), (1, .int .i64 a1), (6, .int .u8 x1_3), (53, .bool (decide (x1_3 ≤ 55)))]) (by kernel_rfl) ?_
     exact hj14 (decide (x1_3 ≤ 55))
    ·let E52 : Env := ((53, .bool false) :: (59, .bool false) :: (58, .tuple []) :: (57, .tuple []) :: (56, .bool false) :: (56, .bool (decide (48 ≤ x1_3))) :: (55, .bool (decide (48 ≤ x1_3))) :: (54, .int .u8 x1_3) :: (41, .bool false) :: E5)
     refine oR 5 (p' := g46p14) (eE := E52) (H' := (mkH [])) (by kernel_rfl) ?_
     refine oK [0, 1, 6, 53] (eE := [(0, .str a0), (1, .int .i64 a1), (6, .int .u8 x1_3), (53, .bool false)]) (by kernel_rfl) ?_
     exact hj14 false
def g46 (k : Nat) (a0 : (List Nat)) (a1 : Int) : Option (Int × Int) :=
 jn (fun (z12 : Bool) => if z12 then (some (((-1) : Int), (0 : Int))) else ((nthS a0 (fW .i64 (a1 + 1))).bind fun x1_3 => g46_l13 k a0 a1 x1_3 k 0)) (fun j12 => if (decide (a1 < 0)) then (j12 true) else (if (decide (fW .i64 ((a0.length : Int) - 1) ≤ a1)) then (j12 true) else ((nthS a0 a1).bind fun x0_12 => j12 (!decide (x0_12 = 92)))))
theorem g46_ok (k : Nat) (a0 : (List Nat)) (a1 : Int) (r : (Int × Int)) (h : g46 k a0 a1 = some r) : PureOk Try.prog 46 [.str a0, .int .i64 a1] (.tuple [.int .i64 r.1, .int .i64 r.2]) := by
 refine pure_of X46 (fun _ => rfl) Try.func46 (by decide +kernel) (by kernel_rfl) (t := g46 k a0 a1) ?_ h
 unfold g46
 refine oE (eE := [(0, .str a0), (1, .int .i64 a1)]) (by kernel_rfl) ?_
 let E1 : Env := [(20, .bool (decide (a1 < 0))), (19, .bool (decide (a1 < 0))), (18, .int .i64 a1), (5, .int .i64 0), (4, .int .i64 0), (0, .str a0), (1, .int .i64 a1)]
 refine oR 11 (p' := (atN 3 (ctl1 g46p1))) (eE := E1) (H' := (mkH [])) (by kernel_rfl) ?_
 refine oJ (f := fun (z12 : Bool) => if z12 then (some (((-1) : Int), (0 : Int))) else ((nthS a0 (fW .i64 (a1 + 1))).bind fun x1_3 => g46_l13 k a0 a1 x1_3 k 0)) g46p2 (fun (z12 : Bool) => [(0, .str a0), (1, .int .i64 a1), (32, .bool z12)]) (fun (z12 : Bool) => (mkH [])) (fun z12 => ?_) (fun j12 hj12 => ?_)
 ·refine oS 32 (b := z12) (by kernel_rfl) (fun hb => ?_) (fun hb => ?_)
  ·let E2 : Env := [(5, .int .i64 0), (4, .int .i64 (-1)), (32, .bool true), (0, .str a0), (1, .int .i64 a1), (32, .bool z12)]
   refine oR 7 (p' := .fin) (eE := E2) (H' := (mkH [])) (by kernel_rfl) ?_
   exact oT (r := (((-1) : Int), (0 : Int))) (xs := [.int .i64 (-1), .int .i64 0]) (v := .tuple [.int .i64 (-1), .int .i64 0]) (by kernel_rfl) (by kernel_rfl) (by kernel_rfl) (.pures (by kernel_rfl)) (by kernel_rfl)
  ·let E3 : Env := [(35, .int .i64 (fW .i64 (a1 + 1))), (34, .int .i64 a1), (33, .str a0), (32, .bool false), (0, .str a0), (1, .int .i64 a1), (32, .bool z12)]
   refine oR 7 (p' := (atN 3 (ctl1 g46p4))) (eE := E3) (H' := (mkH [])) (by kernel_rfl) ?_
   refine oH (fun (x1_3 : Int) => (.int .u8 x1_3, (mkH []))) (atN 4 (ctl1 g46p4)) (fun x1_3 => ((36, .int .u8 x1_3) :: E3)) (idxH (by kernel_rfl)) (fun _ => by kernel_rfl) (fun x1_3 hx1_3 => ?_)
   refine oR 5 (p' := (atN 1 (ctl1 g46p6))) (eE := ((37, .slice 0 9 0 9 1) :: (6, .int .u8 x1_3) :: (36, .int .u8 x1_3) :: E3)) (H' := (mkH [⟨[.int .i64 8, .int .i64 127, .int .i64 27, .int .i64 12, .int .i64 10, .int .i64 13, .int .i64 32, .int .i64 9, .int .i64 11], 0, false⟩])) (by kernel_rfl) ?_
   refine ok_frz [⟨[.int .i64 8, .int .i64 127, .int .i64 27, .int .i64 12, .int .i64 10, .int .i64 13, .int .i64 32, .int .i64 9, .int .i64 11], 0, false⟩] 37 0 9 1 0 [.int .i64 8, .int .i64 127, .int .i64 27, .int .i64 12, .int .i64 10, .int .i64 13, .int .i64 32, .int .i64 9, .int .i64 11] [0, 1, 6, 32, 33, 34, 35, 36] (env0 := [(0, .str a0), (1, .int .i64 a1), (6, .int .u8 x1_3), (32, .bool false), (33, .str a0), (34, .int .i64 a1), (35, .int .i64 (fW .i64 (a1 + 1))), (36, .int .u8 x1_3)]) (by kernel_rfl) rfl (.inl (by kernel_rfl)) rfl rfl (by decide) (by kernel_rfl) (by kernel_rfl) (by kernel_rfl) ⟨.inl rfl, trivial⟩ ?_
   refine oE (eE := [(37, .vec (g46c0).length 1 ((g46c0).flatMap e3)), (0, .str a0), (1, .int .i64 a1), (6, .int .u8 x1_3), (32, .bool false), (33, .str a0), (34, .int .i64 a1), (35, .int .i64 (fW .i64 (a1 + 1))), (36, .int .u8 x1_3)]) (by kernel_rfl) ?_
   refine ok_heap (H' := (mkH [⟨[], 0, false⟩])) (by kernel_rfl) ?_
   let E4 : Env := [(9, .int .i64 0), (8, .vec (g46c0).length 1 ((g46c0).flatMap e3)), (7, .str g46c1), (37, .vec (g46c0).length 1 ((g46c0).flatMap e3)), (0, .str a0), (1, .int .i64 a1), (6, .int .u8 x1_3), (32, .bool false), (33, .str a0), (34, .int .i64 a1), (35, .int .i64 (fW .i64 (a1 + 1))), (36, .int .u8 x1_3)]
   refine oR 10 (p' := g46p8) (eE := E4) (H' := (mkH [⟨[], 0, false⟩])) (by kernel_rfl) ?_
   refine oK [0, 1, 6, 7, 8, 9] (eE := [(0, .str a0), (1, .int .i64 a1), (6, .int .u8 x1_3), (7, .str g46c1), (8, .vec (g46c0).length 1 ((g46c0).flatMap e3)), (9, .int .i64 0)]) (by kernel_rfl) ?_
   refine ok_cut [] [⟨[], 0, false⟩] (by kernel_rfl) rfl (by kernel_rfl) trivial ?_
   exact (g46_l13_ok k a0 a1 x1_3 k) 0
 ·refine oS 20 (b := decide (a1 < 0)) (by kernel_rfl) (fun hb => ?_) (fun hb => ?_)
  ·let E53 : Env := ((32, .bool true) :: (31, .tuple []) :: (30, .tuple []) :: (29, .tuple []) :: (28, .tuple []) :: (27, .bool true) :: (26, .bool true) :: (25, .tuple []) :: (24, .tuple []) :: (23, .tuple []) :: (22, .tuple []) :: (21, .tuple []) :: (20, .bool true) :: E1)
   refine oR 13 (p' := g46p2) (eE := E53) (H' := (mkH [])) (by kernel_rfl) ?_
   refine oK [0, 1, 32] (eE := [(0, .str a0), (1, .int .i64 a1), (32, .bool true)]) (by kernel_rfl) ?_
   exact hj12 true
  ·let E54 : Env := ((27, .bool (decide (fW .i64 ((a0.length : Int) - 1) ≤ a1))) :: (26, .bool (decide (fW .i64 ((a0.length : Int) - 1) ≤ a1))) :: (25, .bool (decide (fW .i64 ((a0.length : Int) - 1) ≤ a1))) :: (24, .int .i64 (fW .i64 ((a0.length : Int) - 1))) :: (23, .int .i64 (a0.length : Int)) :: (22, .str a0) :: (21, .int .i64 a1) :: (20, .bool false) :: E1)
   refine oR 7 (p' := (atN 10 (ctl1 g46p1))) (eE := E54) (H' := (mkH [])) (by kernel_rfl) ?_
   refine oS 27 (b := decide (fW .i64 ((a0.length : Int) - 1) ≤ a1)) (by kernel_rfl) (fun hb => ?_) (fun hb => ?_)
   ·let E55 : Env := ((32, .bool true) :: (31, .tuple []) :: (30, .tuple []) :: (29, .tuple []) :: (28, .tuple []) :: (27, .bool true) :: E54)
    refine oR 6 (p' := g46p2) (eE := E55) (H' := (mkH [])) (by kernel_rfl) ?_
    refine oK [0, 1, 32] (eE := [(0, .str a0), (1, .int .i64 a1), (32, .bool true)]) (by kernel_rfl) ?_
    exact hj12 true
   ·refine oR 2 (p' := (atN 12 (ctl1 g46p1))) (eE := ((29, .int .i64 a1) :: (28, .str a0) :: (27, .bool false) :: E54)) (H' := (mkH [])) (by kernel_rfl) ?_
    refine oH (fun (x0_12 : Int) => (.int .u8 x0_12, (mkH []))) (atN 13 (ctl1 g46p1)) (fun x0_12 => ((30, .int .u8 x0_12) :: (29, .int .i64 a1) :: (28, .str a0) :: (27, .bool false) :: E54)) (idxH (by kernel_rfl)) (fun _ => by kernel_rfl) (fun x0_12 hx0_12 => ?_)
    let E56 : Env := ((32, .bool (!decide (x0_12 = 92))) :: (31, .bool (!decide (x0_12 = 92))) :: (30, .int .u8 x0_12) :: (29, .int .i64 a1) :: (28, .str a0) :: (27, .bool false) :: E54)
    refine oR 3 (p' := g46p2) (eE := E56) (H' := (mkH [])) (by kernel_rfl) ?_
    refine oK [0, 1, 32] (eE := [(0, .str a0), (1, .int .i64 a1), (32, .bool (!decide (x0_12 = 92)))]) (by kernel_rfl) ?_
    exact hj12 (!decide (x0_12 = 92))
end
end Go.Proofs.Ytokcjgjgojlhbaa.Am
set_option maxRecDepth 100000
set_option linter.unusedVariables false
set_option linter.unusedSimpArgs false
namespace Go.Proofs.Ytokcjgjgojlhbaa.Am
open Go
def digV (b : Nat) : Nat → Nat → List Nat → Nat × Nat
 | 0, v, _ => (v, 0)
 | _ + 1, v, [] => (v, 0)
 | m + 1, v, c :: r => if dgN c < b then ((digV b m (v * b + dgN c) r).1, (digV b m (v * b + dgN c) r).2 + 1) else (v, 0)
def hexBr (q : List Nat) : Int × Int := if (digV 16 6 0 q).2 = 0 then (-1, 0) else match q.drop (digV 16 6 0 q).2 with | c :: _ => if c = 125 ∧ cpN (digV 16 6 0 q).1 = true then (((digV 16 6 0 q).1 : Int), ((4 + (digV 16 6 0 q).2 : Nat) : Int)) else (-1, 0) | [] => (-1, 0)
def hex2 (r : List Nat) : Int × Int := if (digV 16 2 0 r).2 < 2 then (-1, 0) else (((digV 16 2 0 r).1 : Int), 4)
def hexN (r : List Nat) : Int × Int := match r with | c :: q => if c = 123 then hexBr q else hex2 (c :: q) | [] => (-1, 0)
def ctlN (r : List Nat) : Int × Int := match r with | c :: _ => if c < 64 ∨ 95 < c ∧ (c < 97 ∨ 122 < c) then (-1, 0) else (((c % 32 : Nat) : Int), 3) | [] => (-1, 0)
def nameN (c : Nat) : Nat := if c = 98 then 8 else if c = 100 then 127 else if c = 101 then 27 else if c = 102 then 12 else if c = 110 then 10 else if c = 114 then 13 else if c = 115 then 32 else if c = 116 then 9 else if c = 118 then 11 else 0
def uniN (s : List Nat) : Int × Int := if (dec s).1 < 32 then (-1, 0) else ((dec s).1, (dec s).2 + 1)
def octN (s : List Nat) : Int × Int := (((digV 8 3 0 s).1 : Int), ((1 + (digV 8 3 0 s).2 : Nat) : Int))
def escB (c : Nat) (r : List Nat) : Int × Int := if c = 120 then hexN r else if c = 94 then ctlN r else if 48 ≤ c ∧ c ≤ 55 then octN (c :: r) else if nameN c = 0 then uniN (c :: r) else ((nameN c : Int), 2)
def escN (s : List Nat) : Int × Int := match s with | a :: c :: r => if a = 92 then escB c r else (-1, 0) | _ => (-1, 0)
theorem digV_le (b : Nat) : ∀ (m v : Nat) (s : List Nat), (digV b m v s).2 ≤ m ∧ (digV b m v s).2 ≤ s.length
 | 0, v, s => ⟨Nat.le_refl _, Nat.zero_le _⟩
 | m + 1, v, [] => ⟨Nat.zero_le _, Nat.le_refl _⟩
 | m + 1, v, c :: r => by
  have := digV_le b m (v * b + dgN c) r
  simp only [digV]
  split
  ·simp only [List.length_cons]; omega
  ·exact ⟨Nat.zero_le _, Nat.zero_le _⟩
theorem digV_lt (b : Nat) (hb : 0 < b) : ∀ (m v : Nat) (s : List Nat), (digV b m v s).1 < (v + 1) * b ^ m
 | 0, v, s => by simp only [digV, Nat.pow_zero, Nat.mul_one]; omega
 | m + 1, v, [] => by
  simp only [digV]
  have : 1 ≤ b ^ (m + 1) := Nat.one_le_pow _ _ hb
  calc v < v + 1 := Nat.lt_succ_self _
   _ = (v + 1) * 1 := (Nat.mul_one _).symm
   _ ≤ _ := Nat.mul_le_mul_left _ this
 | m + 1, v, c :: r => by
  simp only [digV]
  split
  ·rename_i h
   have := digV_lt b hb m (v * b + dgN c) r
   refine Nat.lt_of_lt_of_le this ?_
   rw [Nat.pow_succ, Nat.mul_comm (b ^ m) b, ← Nat.mul_assoc]
   refine Nat.mul_le_mul_right _ ?_
   rw [Nat.add_mul, Nat.one_mul]; omega
  ·have : 1 ≤ b ^ (m + 1) := Nat.one_le_pow _ _ hb
   calc v < v + 1 := Nat.lt_succ_self _
    _ = (v + 1) * 1 := (Nat.mul_one _).symm
    _ ≤ _ := Nat.mul_le_mul_left _ this
theorem or_sh (m : Nat) (hm : m ≤ 10) {y x : Nat} (hy : y < 1099511627776) (hx : x < 2 ^ m) : orI .i64 (shlC .i64 (y : Int) m) (x : Int) = ((y * 2 ^ m + x : Nat) : Int) := by
 have hp : 2 ^ m ≤ 1024 := Nat.pow_le_pow_right (n := 2) (by decide) hm
 have hq : y * 2 ^ m ≤ 1099511627776 * 1024 := Nat.mul_le_mul (Nat.le_of_lt hy) hp
 have e1 : shlC .i64 (y : Int) m = ((y * 2 ^ m : Nat) : Int) := by
  unfold shlC
  have : (y : Int) * 2 ^ m = ((y * 2 ^ m : Nat) : Int) := by push_cast; rfl
  rw [this, fwI (by omega) (by omega)]
 rw [e1]
 unfold orI
 have e2 : ∀ x : Nat, x < 2 ^ 63 → (BitVec.ofInt IntKind.i64.bits (x : Int)).toNat = x := by
  intro x hx
  show (BitVec.ofInt 64 (x : Int)).toNat = x
  rw [BitVec.toNat_ofInt]
  omega
 rw [BitVec.toNat_or, e2 _ (by omega), e2 _ (by omega)]
 have e3 : y * 2 ^ m ||| x = y * 2 ^ m + x := by
  have h := Nat.two_pow_add_eq_or_of_lt (i := m) hx y
  rw [Nat.mul_comm y (2 ^ m)]
  exact h.symm
 rw [e3, fwI (by omega) (by omega)]
theorem and31 {c : Nat} (h : c < 256) : andI .u8 (c : Int) 31 = ((c % 32 : Nat) : Int) ∧ andI .i64 (c : Int) 31 = ((c % 32 : Nat) : Int) := by
 have w := byteAll (f := fun c => decide (andI .u8 (c : Int) 31 = ((c % 32 : Nat) : Int)) && decide (andI .i64 (c : Int) 31 = ((c % 32 : Nat) : Int))) (by decide +kernel) h
 simpa using w
theorem control_at (k : Nat) {s : List Nat} (hs : By s) (hl : Sz s) {a : Nat} (ha : a + 2 ≤ s.length) : g62 k s (a : Int) = some (ctlN (s.drop (a + 2))) := by
 unfold Sz at hl
 unfold g62
 rcases Nat.lt_or_ge (a + 2) s.length with h | h
 ·obtain ⟨c, r, hc, hr, hm, hrl⟩ := dcons h
  have n2 : nthS s ((a : Int) + 2) = some (c : Int) := nthX (by omega) hc
  have c256 := hs c hm
  refine iF (by first | (simp (disch := omega) only [↓reduceIte, ↓jn, gsL]; done) | rfl) ?_
  refine bS (by (try simp (disch := omega) only [fwI]); exact n2) ?_
  rw [hc]
  by_cases h0 : c < 64 ∨ 95 < c ∧ (c < 97 ∨ 122 < c)
  ·simp only [ctlN, h0, if_true]
   refine (jS (v := true) (fun j => ?_)).trans rfl
   by_cases h1 : c < 64
   ·simp (disch := omega) only [↓reduceIte, ↓jn, gsL]
   ·by_cases h2 : c < 97
    ·simp (disch := omega) only [↓reduceIte, ↓jn, gsL]
    ·simp (disch := omega) only [↓reduceIte, ↓jn, gsL]
  ·simp only [ctlN, h0, if_false]
   refine (jS (v := false) (fun j => ?_)).trans ?_
   ·by_cases h1 : 95 < c
    ·simp (disch := omega) only [↓reduceIte, ↓jn, gsL]
    ·simp (disch := omega) only [↓reduceIte, ↓jn, gsL]
   ·refine iF (by first | (simp (disch := omega) only [↓reduceIte, ↓jn, gsL]; done) | rfl) ?_
    rw [(and31 c256).1, fwI (by omega) (by omega)]
 ·refine iT (by first | (simp (disch := omega) only [↓reduceIte, ↓jn, gsL]; done) | rfl) ?_
  rw [dnil h]; rfl
theorem oct_l (k : Nat) {s : List Nat} (hs : By s) (hl : Sz s) {a : Nat} : ∀ (d f n v : Nat), n + d = 4 → d < f → (v + 1) * 8 ^ d ≤ 4096 → a + n ≤ s.length + 4 →
 g52_l9 k s (a : Int) f (v : Int) (n : Int) = some (((digV 8 d v (s.drop (a + n))).1 : Int), ((n + (digV 8 d v (s.drop (a + n))).2 : Nat) : Int))
 | 0, f, n, v, hn, hf, hv, ha => by
  unfold Sz at hl
  obtain ⟨f, rfl⟩ : ∃ f', f = f' + 1 := ⟨f - 1, by omega⟩
  rw [g52_l9_s]
  refine (jS (v := (false, (n : Int), (v : Int))) (fun j => ?_)).trans ?_
  ·simp (disch := omega) only [↓reduceIte, ↓jn, gsL]
  ·rfl
 | d + 1, f, n, v, hn, hf, hv, ha => by
  have hl' := hl
  unfold Sz at hl
  obtain ⟨f, rfl⟩ : ∃ f', f = f' + 1 := ⟨f - 1, by omega⟩
  rw [g52_l9_s]
  rcases Nat.lt_or_ge (a + n) s.length with h | h
  ·obtain ⟨c, r, hc, hr, hm, hrl⟩ := dcons h
   have nc : nthS s ((a : Int) + n) = some (c : Int) := nthX (by omega) hc
   have dc := digit_at k (hs c hm)
   by_cases hd : dgN c < 8
   ·have e := fun _ : Unit => fw_s (n := n) (by omega)
    refine (jS (v := (true, (n : Int), (v : Int))) (fun j => ?_)).trans ?_
    ·simp (disch := omega) only [↓reduceIte, ↓jn, gsL, nc, dc]
    ·refine iT (by first | (simp (disch := omega) only [↓reduceIte, ↓jn, gsL]; done) | rfl) ?_
     refine bS (by (try simp (disch := omega) only [fwI]); exact nc) ?_
     refine bS (by (try simp (disch := omega) only [fwI]); exact dc) ?_
     have hp : 1 ≤ 8 ^ d := Nat.one_le_pow _ _ (by decide)
     have hv' : (v * 2 ^ 3 + dgN c + 1) * 8 ^ d ≤ 4096 := by
      refine Nat.le_trans ?_ hv
      rw [Nat.pow_succ 8 d, Nat.mul_comm (8 ^ d) 8, ← Nat.mul_assoc]
      exact Nat.mul_le_mul_right _ (by omega)
     have hv1 : v * 2 ^ 3 + dgN c + 1 ≤ 4096 := Nat.le_trans (Nat.le_mul_of_pos_right _ hp) hv'
     have o := or_sh 3 (by decide) (y := v) (x := dgN c) (by omega) (by omega)
     rw [o]
     have ih := oct_l k hs hl' (a := a) d f (n + 1) (v * 2 ^ 3 + dgN c) (by omega) (by omega) hv' (by omega)
     rw [e ()]
     refine ih.trans ?_
     rw [show a + (n + 1) = a + n + 1 from rfl, hr, hc]
     simp only [digV, hd, if_true, show (2 : Nat) ^ 3 = 8 from rfl]
     refine congrArg some (Prod.ext rfl ?_)
     show ((_ : Nat) : Int) = ((_ : Nat) : Int)
     omega
   ·refine (jS (v := (false, (n : Int), (v : Int))) (fun j => ?_)).trans ?_
    ·simp (disch := omega) only [↓reduceIte, ↓jn, gsL, nc, dc]
    ·rw [hc]; simp only [digV, hd, if_false]; rfl
  ·refine (jS (v := (false, (n : Int), (v : Int))) (fun j => ?_)).trans ?_
   ·simp (disch := omega) only [↓reduceIte, ↓jn, gsL]
   ·rw [dnil h]; simp only [digV]; rfl
def finH (s : List Nat) (a p : Nat) (bh : Bool) (v n : Nat) : Int × Int :=
 if bh then (if n < 1 then (-1, 0) else match s.drop (p + n) with | c :: _ => if c = 125 ∧ cpN v = true then ((v : Int), ((p + n + 1 - a : Nat) : Int)) else (-1, 0) | [] => (-1, 0))
 else (if n < 2 then (-1, 0) else if cpN v = true then ((v : Int), ((p + n - a : Nat) : Int)) else (-1, 0))
theorem put_nil (v : Nat) : eqL (put (v : Int)) [] = !cpN v := by
 cases h : cpN v with
 | false => rw [put_no h]; rfl
 | true =>
  rw [put_cp h]
  unfold enc
  repeat' split
  all_goals rfl
theorem hex_e {k : Nat} (hk : 6 ≤ k) {s : List Nat} (hs : By s) (hl : Sz s) {a p M : Nat} (bh : Bool) (hp : a ≤ p) (hpl : p ≤ s.length + 10) {v n f : Nat} (hn : n ≤ 6) (hend : n = M ∨ s.length ≤ p + n ∨ ∃ c r, s.drop (p + n) = c :: r ∧ ¬ dgN c < 16) :
 g61_l6 k s (a : Int) ((p : Int), (M : Int), if bh then 1 else 0) (f + 1) (v : Int) (n : Int) = some (finH s a p bh v n) := by
 have hl' := hl
 unfold Sz at hl
 rw [g61_l6_s]
 refine (jS (v := (false, (v : Int), (n : Int))) (fun j => ?_)).trans ?_
 ·by_cases h1 : n < M
  ·by_cases h2 : p + n < s.length
   ·obtain ⟨c, r, hc, hd⟩ : ∃ c r, s.drop (p + n) = c :: r ∧ ¬ dgN c < 16 := by
     rcases hend with h | h | h
     ·omega
     ·omega
     ·exact h
    have nc : nthS s ((p : Int) + n) = some (c : Int) := nthX (by omega) hc
    simp (disch := omega) only [↓reduceIte, ↓jn, gsL, nc, digit_at k (hs c (drop_mem hc))]
   ·simp (disch := omega) only [↓reduceIte, ↓jn, gsL]
  ·simp (disch := omega) only [↓reduceIte, ↓jn, gsL]
 ·refine iF (by first | (simp (disch := omega) only [↓reduceIte, ↓jn, gsL]; done) | rfl) ?_
  simp only [fw_a (n := p) (m := n) (by omega) (by omega), put_at hk, Option.bind_some, put_nil]
  unfold finH
  cases bh with
  | false =>
   simp only [Bool.false_eq_true, if_false]
   by_cases h1 : n < 2
   ·rw [if_pos h1]
    refine (jS (v := ((v : Int), ((p + n : Nat) : Int), true)) (fun j => ?_)).trans rfl
    simp (disch := omega) only [↓reduceIte, ↓jn, gsL]
   ·rw [if_neg h1]
    refine (jS (v := ((v : Int), ((p + n : Nat) : Int), !cpN v)) (fun j => ?_)).trans ?_
    ·simp (disch := omega) only [↓reduceIte, ↓jn, gsL]
    ·cases cpN v with
     | false => rfl
     | true => refine iF (by first | (simp (disch := omega) only [↓reduceIte, ↓jn, gsL]; done) | rfl) ?_; simp (disch := omega) only [↓reduceIte, ↓jn, gsL]; exact congrArg some (Prod.ext rfl (by show _ = ((_ : Nat) : Int); omega))
  | true =>
   simp only [if_true]
   by_cases h1 : n < 1
   ·rw [if_pos h1]
    refine (jS (v := ((v : Int), ((p + n : Nat) : Int), true)) (fun j => ?_)).trans rfl
    simp (disch := omega) only [↓reduceIte, ↓jn, gsL]
   ·rw [if_neg h1]
    rcases Nat.lt_or_ge (p + n) s.length with h2 | h2
    ·obtain ⟨c, r, hc, hr, hm, hrl⟩ := dcons h2
     have nc : nthS s ((p + n : Nat) : Int) = some (c : Int) := nthX rfl hc
     rw [hc]
     by_cases h125 : c = 125
     ·subst h125
      refine (jS (v := ((v : Int), ((p + n : Nat) : Int), !cpN v)) (fun j => ?_)).trans ?_
      ·simp (disch := omega) only [↓reduceIte, ↓jn, gsL, nc]
      ·simp only [true_and]
       cases cpN v with
       | false => rfl
       | true => refine iF (by first | (simp (disch := omega) only [↓reduceIte, ↓jn, gsL]; done) | rfl) ?_; simp (disch := omega) only [↓reduceIte, ↓jn, gsL]; exact congrArg some (Prod.ext rfl (by show _ = ((_ : Nat) : Int); omega))
     ·refine (jS (v := ((v : Int), ((p + n : Nat) : Int), true)) (fun j => ?_)).trans ?_
      ·simp (disch := omega) only [↓reduceIte, ↓jn, gsL, nc]
      ·simp only [h125, false_and, if_false]; rfl
    ·rw [dnil h2]
     refine (jS (v := ((v : Int), ((p + n : Nat) : Int), true)) (fun j => ?_)).trans rfl
     simp (disch := omega) only [↓reduceIte, ↓jn, gsL]
theorem hex_l {k : Nat} (hk : 6 ≤ k) {s : List Nat} (hs : By s) (hl : Sz s) {a p M : Nat} (bh : Bool) (hp : a ≤ p) (hpl : p ≤ s.length + 10) (hM : M ≤ 6) : ∀ (d f n v : Nat), n + d = M → d < f → (v + 1) * 16 ^ d ≤ 16777216 →
 g61_l6 k s (a : Int) ((p : Int), (M : Int), if bh then 1 else 0) f (v : Int) (n : Int) = some (finH s a p bh (digV 16 d v (s.drop (p + n))).1 (n + (digV 16 d v (s.drop (p + n))).2))
 | 0, f, n, v, hn, hf, hv => by
  obtain ⟨f, rfl⟩ : ∃ f', f = f' + 1 := ⟨f - 1, by omega⟩
  exact hex_e hk hs hl bh hp hpl (by omega) (.inl (by omega))
 | d + 1, f, n, v, hn, hf, hv => by
  have hl' := hl
  unfold Sz at hl
  obtain ⟨f, rfl⟩ : ∃ f', f = f' + 1 := ⟨f - 1, by omega⟩
  rcases Nat.lt_or_ge (p + n) s.length with h | h
  ·obtain ⟨c, r, hc, hr, hm, hrl⟩ := dcons h
   by_cases hd : dgN c < 16
   ·rw [g61_l6_s]
    have nc : nthS s ((p : Int) + n) = some (c : Int) := nthX (by omega) hc
    have dc := digit_at k (hs c hm)
    have e := fun _ : Unit => fw_s (n := n) (by clear hv; omega)
    have hnM : n < M := by omega
    refine (jS (v := (true, (v : Int), (n : Int))) (fun j => ?_)).trans ?_
    ·clear hv; simp (disch := omega) only [↓reduceIte, ↓jn, gsL, nc, dc]
    ·refine iT (by first | (simp (disch := omega) only [↓reduceIte, ↓jn, gsL]; done) | rfl) ?_
     refine bS (by (try simp (disch := omega) only [fwI]); exact nc) ?_
     refine bS (by (try simp (disch := omega) only [fwI]); exact dc) ?_
     have h16 : 1 ≤ 16 ^ d := Nat.one_le_pow _ _ (by decide)
     have hv' : (v * 2 ^ 4 + dgN c + 1) * 16 ^ d ≤ 16777216 := by
      refine Nat.le_trans ?_ hv
      rw [Nat.pow_succ 16 d, Nat.mul_comm (16 ^ d) 16, ← Nat.mul_assoc]
      exact Nat.mul_le_mul_right _ (by omega)
     have hv1 : v * 2 ^ 4 + dgN c + 1 ≤ 16777216 := Nat.le_trans (Nat.le_mul_of_pos_right _ h16) hv'
     have o := or_sh 4 (by decide) (y := v) (x := dgN c) (by omega) (by omega)
     rw [o]
     have ih := hex_l hk hs hl' (a := a) (p := p) (M := M) bh hp hpl hM d f (n + 1) (v * 2 ^ 4 + dgN c) (by omega) (by omega) hv'
     rw [e ()]
     refine ih.trans ?_
     rw [show p + (n + 1) = p + n + 1 from rfl, hr, hc]
     simp only [digV, hd, if_true, show (2 : Nat) ^ 4 = 16 from rfl]
     rw [Nat.add_assoc n 1, Nat.add_comm 1]
   ·rw [hc]
    simp only [digV, hd, if_false]
    exact hex_e hk hs hl' bh hp hpl (by omega) (.inr (.inr ⟨c, r, hc, hd⟩))
  ·rw [dnil h]
   simp only [digV]
   exact hex_e hk hs hl' bh hp hpl (by omega) (.inr (.inl (by omega)))
theorem cp_small {v : Nat} (h : v < 256) : cpN v = true := by unfold cpN; simp; omega
theorem hex_at {k : Nat} (hk : 10 ≤ k) {s : List Nat} (hs : By s) (hl : Sz s) {a : Nat} (ha : a + 2 ≤ s.length) : g61 k s (a : Int) = some (hexN (s.drop (a + 2))) := by
 have hl' := hl
 unfold Sz at hl
 unfold g61
 have e2 := fun _ : Unit => fw_a (n := a) (m := 2) (by omega) (by omega)
 have two : ∀ r, s.drop (a + 2) = r → some (finH s a (a + 2) false (digV 16 2 0 (s.drop (a + 2 + 0))).1 (0 + (digV 16 2 0 (s.drop (a + 2 + 0))).2)) = some (hex2 r) := by
  intro r hr
  rw [Nat.add_zero, hr, Nat.zero_add]
  have h1 := digV_le 16 2 0 r
  have h2 := digV_lt 16 (by decide) 2 0 r
  unfold finH hex2
  simp only [Bool.false_eq_true, if_false]
  by_cases h : (digV 16 2 0 r).2 < 2
  ·rw [if_pos h, if_pos h]
  ·rw [if_neg h, if_neg h, if_pos (cp_small (by simpa using h2))]
   exact congrArg some (Prod.ext rfl (by show ((_ : Nat) : Int) = 4; omega))
 rw [show fW .i64 ((a : Int) + 2) = ((a + 2 : Nat) : Int) from e2 ()]
 clear e2
 rcases Nat.lt_or_ge (a + 2) s.length with h | h
 ·obtain ⟨c, r, hc, hr, hm, hrl⟩ := dcons h
  have nc : nthS s ((a + 2 : Nat) : Int) = some (c : Int) := nthX rfl hc
  by_cases h123 : c = 123
  ·subst h123
   refine (jS (v := true) (fun j => ?_)).trans ?_
   ·simp (disch := omega) only [↓reduceIte, ↓jn, gsL, nc]
   ·refine (jS (v := (((a + 3 : Nat) : Int), ((6 : Nat) : Int), if true then 1 else 0)) (fun j => ?_)).trans ?_
    ·refine iT (by first | (simp (disch := omega) only [↓reduceIte, ↓jn, gsL]; done) | rfl) ?_
     rw [fw_s (n := a + 2) (by omega)]; rfl
    ·refine (hex_l (by omega) hs hl' (a := a) (p := a + 3) (M := 6) true (by omega) (by omega) (by decide) 6 k 0 0 rfl (by omega) (by decide)).trans ?_
     rw [Nat.add_zero, show a + 3 = a + 2 + 1 from rfl, hr, hc, Nat.zero_add]
     have h1 := digV_le 16 6 0 r
     unfold finH hexN hexBr
     simp only [if_true, if_true]
     by_cases h0 : (digV 16 6 0 r).2 = 0
     ·rw [if_pos (by omega), if_pos h0]
     ·rw [if_neg (by omega), if_neg h0, ← List.drop_drop, hr]
      cases r.drop (digV 16 6 0 r).2 with
      | nil => rfl
      | cons d q =>
       simp only []
       by_cases hd : d = 125 ∧ cpN (digV 16 6 0 r).1 = true
       ·rw [if_pos hd, if_pos hd]
        exact congrArg some (Prod.ext rfl (by show ((_ : Nat) : Int) = ((_ : Nat) : Int); omega))
       ·rw [if_neg hd, if_neg hd]
  ·refine (jS (v := false) (fun j => ?_)).trans ?_
   ·simp (disch := omega) only [↓reduceIte, ↓jn, gsL, nc]
   ·refine (jS (v := (((a + 2 : Nat) : Int), ((2 : Nat) : Int), if false then 1 else 0)) (fun j => ?_)).trans ?_
    ·refine iF (by first | (simp (disch := omega) only [↓reduceIte, ↓jn, gsL]; done) | rfl) ?_
     rfl
    ·refine (hex_l (by omega) hs hl' (a := a) (p := a + 2) (M := 2) false (by omega) (by omega) (by decide) 2 k 0 0 rfl (by omega) (by decide)).trans ?_
     rw [two _ hc, hc]
     simp only [hexN, h123, if_false]
 ·refine (jS (v := false) (fun j => ?_)).trans ?_
  ·simp (disch := omega) only [↓reduceIte, ↓jn, gsL]
  ·refine (jS (v := (((a + 2 : Nat) : Int), ((2 : Nat) : Int), if false then 1 else 0)) (fun j => ?_)).trans ?_
   ·refine iF (by first | (simp (disch := omega) only [↓reduceIte, ↓jn, gsL]; done) | rfl) ?_
    rfl
   ·refine (hex_l (by omega) hs hl' (a := a) (p := a + 2) (M := 2) false (by omega) (by omega) (by decide) 2 k 0 0 rfl (by omega) (by decide)).trans ?_
    rw [two _ (dnil h), dnil h]
    rfl
end Go.Proofs.Ytokcjgjgojlhbaa.Am
set_option maxRecDepth 100000
set_option linter.unusedVariables false
set_option linter.unusedSimpArgs false
namespace Go.Proofs.Ytokcjgjgojlhbaa.Am
open Go
def skipN : List Nat → Nat
 | [] => 0
 | c :: r => if blkN c then skipN r + 1 else 0
def innN : List Nat → Nat
 | [] => 0
 | c :: r => if inrN c then innN r + 1 else 0
def shwN (s : List Nat) : Nat := if (dec s).1 < 32 ∨ (dec s).1 = 127 then 0 else (dec s).2.toNat
def bmp (n m : Nat) : Nat := if m = 0 then 0 else n + m
def quoN (q : Nat) : Nat → List Nat → Nat
 | 0, _ => 0
 | _ + 1, [] => 0
 | f + 1, c :: r => if c = q then 1 else if c = 92 then bmp (1 + shwN r) (if shwN r = 0 then 0 else quoN q f (r.drop (shwN r))) else bmp (shwN (c :: r)) (if shwN (c :: r) = 0 then 0 else quoN q f ((c :: r).drop (shwN (c :: r))))
def qtdN (s : List Nat) : Nat := match s with | q :: r => bmp 1 (quoN q r.length r) | [] => 0
def chrN (s : List Nat) : Nat := match s with | _ :: c :: r => if c = 92 then (if 0 < (escN (c :: r)).2 then (escN (c :: r)).2.toNat + 1 else 0) else if shwN (c :: r) ≠ 0 ∧ c ≠ 32 then shwN (c :: r) + 1 else 0 | _ => 0
def endN (s : List Nat) (n kind : Nat) : Nat × Nat := match s.drop n with | c :: _ => if inrN c then (0, 0) else (n, kind) | [] => (n, kind)
def hashN (s : List Nat) (w : Nat) : Bool := match s.drop w with | c :: _ => decide (c = 35) && (decide ((frontN s).1 = 0) || decide (w < (frontN s).1)) | [] => false
def numN (s : List Nat) : Nat × Nat := if partN s = 0 then (if hashN s (wholeN s) then (0, 0) else endN s (wholeN s) 3) else endN s (partN s) 4
def lineN : List Nat → Nat
 | [] => 0
 | c :: r => if c = 10 then 0 else lineN r + 1
def trmN (s : List Nat) : Nat → Nat
 | 0 => 0
 | i + 1 => match s.drop i with | c :: _ => if blkN c then trmN s i else i + 1 | [] => i + 1
def cmtN (s : List Nat) : Nat := trmN s (lineN s)
def mac1 (n : Nat) (t : List Nat) : Nat := match t with | c :: _ => if begN c = 1 ∨ begN c = 2 then n + innN t else 0 | [] => 0
def macN (s : List Nat) : Nat := match s with | _ :: c :: r => if c = 63 then mac1 2 r else mac1 1 (c :: r) | _ => 0
def dotN (r : List Nat) : Bool := match r with | [] => true | c :: _ => blkN c || decide (c = 37)
def oneN (s : List Nat) : Nat × Nat := match s with
 | [] => (0, 0)
 | c :: r => if c = 37 then (cmtN s, 11) else if c = 46 ∧ dotN r = true then (1, 10) else if c = 39 then (qtdN s, 1) else if c = 34 then (qtdN s, 6) else if c = 36 then (chrN s, 5) else if c = 63 then (macN s, 7)
  else if begN c = 3 then numN s else if begN c = 1 ∨ begN c = 2 then (innN s, if rsvN (s.take (innN s)) then 8 else begN c) else (lngN s, 9)
theorem skipN_le : ∀ s : List Nat, skipN s ≤ s.length
 | [] => Nat.le_refl _
 | c :: r => by simp only [skipN, List.length_cons]; have := skipN_le r; split <;> omega
theorem innN_le : ∀ s : List Nat, innN s ≤ s.length
 | [] => Nat.le_refl _
 | c :: r => by simp only [innN, List.length_cons]; have := innN_le r; split <;> omega
theorem lineN_le : ∀ s : List Nat, lineN s ≤ s.length
 | [] => Nat.le_refl _
 | c :: r => by simp only [lineN, List.length_cons]; have := lineN_le r; split <;> omega
theorem trmN_le (s : List Nat) : ∀ i, trmN s i ≤ i
 | 0 => Nat.le_refl _
 | i + 1 => by
  simp only [trmN]
  have := trmN_le s i
  split
  ·split <;> omega
  ·omega
theorem shwN_le (s : List Nat) : shwN s ≤ s.length ∧ shwN s ≤ 4 := by
 unfold shwN
 split
 ·omega
 ·cases s with
  | nil => exact ⟨Nat.le_refl _, Nat.zero_le _⟩
  | cons c r =>
   obtain ⟨n, n1, n2, n3, n4, -⟩ := dec_size (s := c :: r) (by simp)
   rw [n1, Int.toNat_natCast]; exact ⟨n4, n3⟩
theorem bmp_le {n m k : Nat} (h : n + m ≤ k) : bmp n m ≤ k := by unfold bmp; split <;> omega
theorem quoN_le (q : Nat) : ∀ (f : Nat) (s : List Nat), quoN q f s ≤ s.length
 | 0, s => Nat.zero_le _
 | f + 1, [] => Nat.zero_le _
 | f + 1, c :: r => by
  have h1 := (shwN_le r).1
  have h2 := (shwN_le (c :: r)).1
  have h3 := quoN_le q f (r.drop (shwN r))
  have h4 := quoN_le q f ((c :: r).drop (shwN (c :: r)))
  rw [List.length_drop] at h3 h4
  simp only [List.length_cons] at h2 h4 ⊢
  simp only [quoN]
  split
  ·omega
  ·split
   ·by_cases h : shwN r = 0
    ·rw [if_pos h]; simp [bmp]
    ·rw [if_neg h]; exact bmp_le (by omega)
   ·by_cases h : shwN (c :: r) = 0
    ·rw [if_pos h]; simp [bmp]
    ·rw [if_neg h]; exact bmp_le (by omega)
theorem qtdN_le (s : List Nat) : qtdN s ≤ s.length := by
 unfold qtdN
 split
 ·rename_i q r
  have := quoN_le q r.length r
  simp only [List.length_cons]
  exact bmp_le (by omega)
 ·exact Nat.zero_le _
theorem dec_ascii {c : Nat} (r : List Nat) (h : c < 128) : dec (c :: r) = ((c : Int), 1) := by
 have hl : leadN c = (1, c) := by unfold leadN; rw [if_pos h]
 have hc : cpN c = true := by unfold cpN; simp; omega
 have hm : moreN 0 c r = some c := by cases r <;> rfl
 simp only [dec, hl]
 rw [if_neg (by decide)]
 show fitN 1 (moreN 0 c r) = _
 rw [hm]
 show (if leastN 1 ≤ c ∧ cpN c = true then _ else _) = _
 rw [if_pos ⟨Nat.zero_le _, hc⟩]
 rfl
theorem dec_big {c : Nat} (r : List Nat) (h : ¬ c < 128) : (dec (c :: r)).1 = -1 ∨ 128 ≤ (dec (c :: r)).1 := by
 simp only [dec]
 split
 ·exact .inl rfl
 ·rename_i h0
  unfold fitN
  split
  ·exact .inl rfl
  ·split
   ·rename_i y hy hh
    right
    have : (leadN c).1 = 2 ∨ (leadN c).1 = 3 ∨ (leadN c).1 = 4 := by
     unfold leadN at h0 ⊢
     rw [if_neg h] at h0 ⊢
     split
     ·simp
     ·split
      ·simp
      ·split
       ·simp
       ·rename_i a b c; rw [if_neg a, if_neg b, if_neg c] at h0; exact absurd rfl h0
    have h1 := hh.1
    rcases this with e | e | e <;> rw [e] at h1 <;> simp [leastN] at h1 <;> (show (128 : Int) ≤ (_ : Int); omega)
   ·exact .inl rfl
theorem escN_cases (s : List Nat) : escN s = (-1, 0) ∨ ∃ v n : Nat, escN s = ((v : Int), (n : Int)) ∧ 2 ≤ n ∧ n ≤ s.length := by
 match s with
 | [] => exact .inl rfl
 | [a] => exact .inl rfl
 | a :: c :: r =>
  simp only [escN]
  split
  ·unfold escB
   split
   ·
    unfold hexN
    cases r with
    | nil => exact .inl rfl
    | cons d q =>
     simp only []
     split
     ·unfold hexBr
      split
      ·exact .inl rfl
      ·have h1 := (digV_le 16 6 0 q).2
       split
       ·rename_i hz
        split
        ·right
         refine ⟨_, _, rfl, by omega, ?_⟩
         have := congrArg List.length hz
         simp only [List.length_drop, List.length_cons] at this ⊢
         omega
        ·exact .inl rfl
       ·exact .inl rfl
     ·unfold hex2
      split
      ·exact .inl rfl
      ·have h1 := digV_le 16 2 0 (d :: q)
       right
       refine ⟨_, 4, rfl, by omega, ?_⟩
       simp only [List.length_cons] at h1 ⊢
       omega
   ·split
    ·unfold ctlN
     split
     ·split
      ·exact .inl rfl
      ·right; exact ⟨_, 3, rfl, by omega, by simp⟩
     ·exact .inl rfl
    ·split
     ·right
      rename_i h8
      have h1 := digV_le 8 3 0 (c :: r)
      refine ⟨_, _, rfl, ?_, ?_⟩
      ·have : dgN c < 8 := by unfold dgN; rw [if_pos (by omega)]; omega
       simp only [digV, this, if_true]; omega
      ·simp only [List.length_cons] at h1 ⊢; omega
     ·split
      ·unfold uniN
       split
       ·exact .inl rfl
       ·rename_i h32
        obtain ⟨n, n1, n2, n3, n4, -⟩ := dec_size (s := c :: r) (by simp)
        right
        refine ⟨(dec (c :: r)).1.toNat, n + 1, ?_, by omega, ?_⟩
        ·rw [n1]; refine Prod.ext ?_ ?_
         ·simp only []; omega
         ·simp only []; push_cast; rfl
        ·simp only [List.length_cons] at n4 ⊢; omega
      ·right; exact ⟨_, 2, rfl, by omega, by simp⟩
  ·exact .inl rfl
theorem chrN_le (s : List Nat) : chrN s ≤ s.length := by
 unfold chrN
 split
 ·rename_i a c r
  have h1 := (shwN_le (c :: r)).1
  split
  ·rcases escN_cases (c :: r) with h | ⟨v, n, h, h2, h3⟩
   ·rw [h]; simp
   ·rw [h]; simp only [List.length_cons] at h3 ⊢
    split
    ·rw [Int.toNat_natCast]; omega
    ·omega
  ·split
   ·simp only [List.length_cons] at h1 ⊢; omega
   ·omega
 ·omega
theorem expN_le (s : List Nat) : expN s ≤ s.length := by
 unfold expN
 split
 ·rename_i e q
  split
  ·have h1 := runN_le 10 false (q.drop (sgn q))
   have h2 := sgn_le q
   rw [List.length_drop] at h1
   simp only [List.length_cons]
   split <;> omega
  ·omega
 ·omega
theorem partN_le (s : List Nat) : partN s ≤ s.length := by
 unfold partN
 split
 ·omega
 ·have h0 := runN_le 10 false s
  unfold fracN
  split
  ·rename_i c r hc
   have hl := drop_len hc
   split
   ·split
    ·omega
    ·have h1 := runN_le 10 false r
     have h2 := expN_le (r.drop (runN 10 false r))
     rw [List.length_drop] at h2
     omega
   ·omega
  ·omega
theorem wholeN_le (s : List Nat) : wholeN s ≤ s.length := by
 unfold wholeN
 have h0 := runN_le 10 false s
 have h1 := runN_le (frontN s).2 false (s.drop (frontN s).1)
 have h2 := (frontN_le s).1
 rw [List.length_drop] at h1
 split <;> omega
theorem endN_le {s : List Nat} {n kind : Nat} (h : n ≤ s.length) : (endN s n kind).1 ≤ s.length := by
 unfold endN
 split
 ·split
  ·exact Nat.zero_le _
  ·exact h
 ·exact h
theorem numN_le (s : List Nat) : (numN s).1 ≤ s.length := by
 unfold numN
 split
 ·split
  ·exact Nat.zero_le _
  ·exact endN_le (wholeN_le s)
 ·exact endN_le (partN_le s)
theorem mac1_le (n : Nat) (t : List Nat) : mac1 n t ≤ n + t.length := by
 unfold mac1
 split
 ·rename_i c r
  have := innN_le (c :: r)
  split <;> omega
 ·omega
theorem macN_le (s : List Nat) : macN s ≤ s.length := by
 unfold macN
 split
 ·rename_i a c r
  have h1 := mac1_le 2 r
  have h2 := mac1_le 1 (c :: r)
  simp only [List.length_cons] at h2 ⊢
  split <;> omega
 ·omega
theorem oneN_le (s : List Nat) : (oneN s).1 ≤ s.length := by
 unfold oneN
 split
 ·exact Nat.le_refl _
 ·rename_i c r
  repeat' split
  ·exact Nat.le_trans (trmN_le _ _) (lineN_le _)
  ·simp
  ·exact qtdN_le (c :: r)
  ·exact qtdN_le (c :: r)
  ·exact chrN_le (c :: r)
  ·exact macN_le (c :: r)
  ·exact numN_le (c :: r)
  ·exact innN_le (c :: r)
  ·exact innN_le (c :: r)
  ·exact fstN_le _ _
end Go.Proofs.Ytokcjgjgojlhbaa.Am
set_option maxRecDepth 100000
set_option linter.unusedVariables false
set_option linter.unusedSimpArgs false
namespace Go.Proofs.Ytokcjgjgojlhbaa.Am
open Go
def mkTok (s : List Nat) (x : Nat × Nat × Nat) : S28 := ⟨(x.1 : Int), (s.drop x.2.1).take x.2.2, (x.2.1 : Int)⟩
def toksN (s : List Nat) : Nat → Nat → Option (List (Nat × Nat × Nat))
 | 0, _ => some []
 | f + 1, a => if s.length ≤ a + skipN (s.drop a) then some [] else if (oneN (s.drop (a + skipN (s.drop a)))).1 = 0 then none else (toksN s f (a + skipN (s.drop a) + (oneN (s.drop (a + skipN (s.drop a)))).1)).map fun l => ((oneN (s.drop (a + skipN (s.drop a)))).2, a + skipN (s.drop a), (oneN (s.drop (a + skipN (s.drop a)))).1) :: l
def scanN (s : List Nat) : List S28 × Int := if 65536 < s.length then ([], 3) else if vld s.length s = false then ([], 2) else match toksN s (s.length + 1) 0 with | some l => (l.map (mkTok s), 0) | none => ([], 4)
def tok0 : S28 := ⟨0, [], 0⟩
def oneAt (s : List Nat) (a : Nat) : S28 × Int := if (oneN (s.drop a)).1 = 0 then (tok0, 4) else (mkTok s ((oneN (s.drop a)).2, a, (oneN (s.drop a)).1), 0)
end Go.Proofs.Ytokcjgjgojlhbaa.Am
set_option maxRecDepth 100000
set_option linter.unusedVariables false
set_option linter.unusedSimpArgs false
namespace Go.Proofs.Ytokcjgjgojlhbaa.Am
open Go
theorem escN_no {a : Nat} {r : List Nat} (h : a ≠ 92) : escN (a :: r) = (-1, 0) := by
 cases r with
 | nil => rfl
 | cons c r => simp only [escN, h, if_false]
theorem escape_at {k : Nat} (hk : 10 ≤ k) {s : List Nat} (hs : By s) (hl : Sz s) (a : Nat) : g52 k s (a : Int) = some (escN (s.drop a)) := by
 have hl' := hl
 unfold Sz at hl
 unfold g52
 have fail : ∀ (f : Bool → Option (Int × Int)) (g : (Bool → Option (Int × Int)) → Option (Int × Int)), f true = some (-1, 0) → (∀ j, g j = j true) → escN (s.drop a) = (-1, 0) → jn f g = some (escN (s.drop a)) := by
  intro f g hf hg he
  rw [he]; exact (hg f).trans hf
 rcases Nat.lt_or_ge a s.length with h | h
 ·obtain ⟨c, r, hc, hr, hm, hrl⟩ := dcons h
  have nc := nthX (x := (a : Int)) rfl hc
  by_cases h92 : c = 92
  ·subst h92
   cases hr2 : r with
   | nil =>
    rw [hr2] at hrl hc
    simp only [List.length_nil] at hrl
    refine fail _ _ rfl (fun j => ?_) (by rw [hc]; rfl)
    simp (disch := omega) only [↓reduceIte, ↓jn, gsL, nc]
   | cons d q =>
    rw [hr2] at hr hrl hc
    have d256 := hs d (drop_mem hr)
    simp only [List.length_cons] at hrl
    have nd : nthS s ((a : Int) + 1) = some (d : Int) := nthX (i := a + 1) (by omega) hr
    refine (jS (v := false) (fun j => ?_)).trans ?_
    ·simp (disch := omega) only [↓reduceIte, ↓jn, gsL, nc]
    ·refine iF (by first | (simp (disch := omega) only [↓reduceIte, ↓jn, gsL]; done) | rfl) ?_
     refine bS (by (try simp (disch := omega) only [fwI]); exact nd) ?_
     rw [hc]
     simp only [escN, if_true]
     have dq : s.drop (a + 2) = q := by rw [← List.drop_drop, hc]; rfl
     unfold escB
     by_cases h120 : d = 120
     ·subst h120
      refine iT (by first | (simp (disch := omega) only [↓reduceIte, ↓jn, gsL]; done) | rfl) ?_
      rw [if_pos rfl, hex_at hk hs hl' (a := a) (by omega), dq]
      rfl
     ·rw [if_neg h120]
      refine iF (by first | (simp (disch := omega) only [↓reduceIte, ↓jn, gsL]; done) | rfl) ?_
      by_cases h94 : d = 94
      ·subst h94
       refine iT (by first | (simp (disch := omega) only [↓reduceIte, ↓jn, gsL]; done) | rfl) ?_
       rw [if_pos rfl, control_at k hs hl' (a := a) (by omega), dq]
       rfl
      ·rw [if_neg h94]
       refine iF (by first | (simp (disch := omega) only [↓reduceIte, ↓jn, gsL]; done) | rfl) ?_
       by_cases h8 : 48 ≤ d ∧ d ≤ 55
       ·rw [if_pos h8]
        refine (jS (v := true) (fun j => ?_)).trans ?_
        ·simp (disch := omega) only [↓reduceIte, ↓jn, gsL]
        ·refine iT (by first | (simp (disch := omega) only [↓reduceIte, ↓jn, gsL]; done) | rfl) ?_
         refine (oct_l k hs hl' (a := a) 3 k 1 0 rfl (by omega) (by decide) (by omega)).trans ?_
         rw [hr]
         rfl
       ·rw [if_neg h8]
        refine (jS (v := false) (fun j => ?_)).trans ?_
        ·by_cases h1 : 48 ≤ d
         ·simp (disch := omega) only [↓reduceIte, ↓jn, gsL]
         ·simp (disch := omega) only [↓reduceIte, ↓jn, gsL]
        ·refine iF (by first | (simp (disch := omega) only [↓reduceIte, ↓jn, gsL]; done) | rfl) ?_
         have nx := next_at (k := k) (by omega) hs hl' (a + 1)
         rw [hr] at nx
         have fin : (g31 k s (fW .i64 ((a : Int) + 1))).bind (fun x4_3 => if (decide (x4_3.1 < 32)) then (some (((-1) : Int), (0 : Int))) else (some (x4_3.1, fW .i64 (x4_3.2 + 1)))) = some (uniN (d :: q)) := by
          rw [fw_s (by omega)]
          refine bS (by (try simp (disch := omega) only [fwI]); exact nx) ?_
          unfold uniN
          obtain ⟨n, n1, n2, n3, n4, -⟩ := dec_size (s := d :: q) (by simp)
          by_cases h32 : (dec (d :: q)).1 < 32
          ·rw [if_pos h32]; refine iT (by first | (simp (disch := omega) only [↓reduceIte, ↓jn, gsL, h32]; done) | rfl) ?_; rfl
          ·rw [if_neg h32]; refine iF (by first | (simp (disch := omega) only [↓reduceIte, ↓jn, gsL, h32]; done) | rfl) ?_; rw [n1, fw_s (by clear n1; omega)]; rfl
         unfold nameN
         by_cases e1 : d = 98
         ·subst e1; rfl
         by_cases e2 : d = 100
         ·subst e2; rfl
         by_cases e3 : d = 101
         ·subst e3; rfl
         by_cases e4 : d = 102
         ·subst e4; rfl
         by_cases e5 : d = 110
         ·subst e5; rfl
         by_cases e6 : d = 114
         ·subst e6; rfl
         by_cases e7 : d = 115
         ·subst e7; rfl
         by_cases e8 : d = 116
         ·subst e8; rfl
         by_cases e9 : d = 118
         ·subst e9; rfl
         rw [dF (p := (d : Int) = 98) (by omega), dF (p := (d : Int) = 100) (by omega), dF (p := (d : Int) = 101) (by omega), dF (p := (d : Int) = 102) (by omega), dF (p := (d : Int) = 110) (by omega), dF (p := (d : Int) = 114) (by omega), dF (p := (d : Int) = 115) (by omega), dF (p := (d : Int) = 116) (by omega), dF (p := (d : Int) = 118) (by omega)]
         simp only [e1, e2, e3, e4, e5, e6, e7, e8, e9, if_false, if_true, Bool.false_eq_true]
         exact fin
  ·have h92' : ¬ (c : Int) = 92 := by omega
   refine fail _ _ rfl (fun j => ?_) (by rw [hc]; exact escN_no h92)
   simp (disch := omega) only [↓reduceIte, ↓jn, gsL, nc, h92']
 ·refine fail _ _ rfl (fun j => ?_) (by rw [dnil h]; rfl)
  simp (disch := omega) only [↓reduceIte, ↓jn, gsL]
theorem rrunV_l (k : Nat) {s : List Nat} (hs : By s) (hl : Sz s) {p b M : Nat} (hb : b ≤ 16) (hpl : p ≤ s.length + 10) (hM : M ≤ 6) : ∀ (d f n v : Nat), n + d = M → d < f → (v + 1) * 16 ^ d ≤ 16777216 →
 g60_l2 k s (p : Int) (b : Int) (M : Int) f (v : Int) (n : Int) = some (((digV b d v (s.drop (p + n))).1 : Int), ((n + (digV b d v (s.drop (p + n))).2 : Nat) : Int))
 | 0, f, n, v, hn, hf, hv => by
  unfold Sz at hl
  obtain ⟨f, rfl⟩ : ∃ f', f = f' + 1 := ⟨f - 1, by omega⟩
  rw [g60_l2_s]
  refine (jS (v := (false, (v : Int), (n : Int))) (fun j => ?_)).trans ?_
  ·clear hv; simp (disch := omega) only [↓reduceIte, ↓jn, gsL]
  ·rfl
 | d + 1, f, n, v, hn, hf, hv => by
  have hl' := hl
  unfold Sz at hl
  obtain ⟨f, rfl⟩ : ∃ f', f = f' + 1 := ⟨f - 1, by omega⟩
  rw [g60_l2_s]
  rcases Nat.lt_or_ge (p + n) s.length with h | h
  ·obtain ⟨c, r, hc, hr, hm, hrl⟩ := dcons h
   have nc : nthS s ((p : Int) + n) = some (c : Int) := nthX (by omega) hc
   have vc := value_at k (b := b) (hs c hm) (by omega)
   by_cases hd : dgN c < b
   ·rw [if_pos hd] at vc
    have e := fun _ : Unit => fw_s (n := n) (by clear hv; omega)
    refine (jS (v := (true, (v : Int), (n : Int))) (fun j => ?_)).trans ?_
    ·clear hv; simp (disch := omega) only [↓reduceIte, ↓jn, gsL, nc, vc]
    ·refine iT (by first | (simp (disch := omega) only [↓reduceIte, ↓jn, gsL]; done) | rfl) ?_
     refine bS (by (try simp (disch := omega) only [fwI]); exact nc) ?_
     refine bS (by (try simp (disch := omega) only [fwI]); exact vc) ?_
     have h16 : 1 ≤ 16 ^ d := Nat.one_le_pow _ _ (by decide)
     have hvb : v * b ≤ v * 16 := Nat.mul_le_mul_left _ hb
     have hv' : (v * b + dgN c + 1) * 16 ^ d ≤ 16777216 := by
      refine Nat.le_trans ?_ hv
      rw [Nat.pow_succ 16 d, Nat.mul_comm (16 ^ d) 16, ← Nat.mul_assoc]
      exact Nat.mul_le_mul_right _ (by omega)
     have hv1 : v * b + dgN c + 1 ≤ 16777216 := Nat.le_trans (Nat.le_mul_of_pos_right _ h16) hv'
     have ih := rrunV_l k hs hl' (p := p) (b := b) (M := M) hb hpl hM d f (n + 1) (v * b + dgN c) (by omega) (by omega) hv'
     rw [e (), show (v : Int) * (b : Int) = ((v * b : Nat) : Int) from by push_cast; rfl, fwI (n := ((v * b : Nat) : Int)) (by omega) (by omega), fw_a (by omega) (by omega)]
     refine ih.trans ?_
     rw [show p + (n + 1) = p + n + 1 from rfl, hr, hc]
     simp only [digV, hd, if_true]
     rw [Nat.add_assoc n 1, Nat.add_comm 1]
   ·rw [if_neg hd] at vc
    refine (jS (v := (false, (v : Int), (n : Int))) (fun j => ?_)).trans ?_
    ·clear hv; simp (disch := omega) only [↓reduceIte, ↓jn, gsL, nc, vc]
    ·rw [hc]; simp only [digV, hd, if_false]; rfl
  ·refine (jS (v := (false, (v : Int), (n : Int))) (fun j => ?_)).trans ?_
   ·clear hv; simp (disch := omega) only [↓reduceIte, ↓jn, gsL]
   ·rw [dnil h]; simp only [digV]; rfl
theorem rrunV_at {k : Nat} {s : List Nat} (hs : By s) (hl : Sz s) {p b M : Nat} (hb : b ≤ 16) (hpl : p ≤ s.length + 10) (hM : M ≤ 6) (hk : 7 ≤ k) : g60 k s (p : Int) (b : Int) (M : Int) = some (((digV b M 0 (s.drop p)).1 : Int), ((digV b M 0 (s.drop p)).2 : Int)) := by
 have hp : 16 ^ M ≤ 16777216 := Nat.pow_le_pow_right (n := 16) (by decide) hM
 have := rrunV_l k hs hl (p := p) (b := b) (M := M) hb hpl hM M k 0 0 (by omega) (by omega) (by omega)
 rw [Nat.zero_add] at this
 exact this
theorem rname_no (k : Nat) (s : List Nat) (a : Int) {d : Nat} (hd : nameN d = 0) (f : Nat) : g46_l13 k s a (d : Int) (f + 10) 0 = g46_l13 k s a (d : Int) (f + 1) 9 := by
 have ne : d ≠ 98 ∧ d ≠ 100 ∧ d ≠ 101 ∧ d ≠ 102 ∧ d ≠ 110 ∧ d ≠ 114 ∧ d ≠ 115 ∧ d ≠ 116 ∧ d ≠ 118 := by
  refine ⟨?_, ?_, ?_, ?_, ?_, ?_, ?_, ?_, ?_⟩ <;> (intro h; subst h; revert hd; decide)
 obtain ⟨e1, e2, e3, e4, e5, e6, e7, e8, e9⟩ := ne
 have st : ∀ (i b f : Nat), i < 9 → nthS g46c1 (i : Int) = some (b : Int) → d ≠ b → g46_l13 k s a (d : Int) (f + 1) (i : Int) = g46_l13 k s a (d : Int) f ((i + 1 : Nat) : Int) := by
  intro i b f hi hn hb
  rw [g46_l13_s]
  refine iT (by first | (simp (disch := omega) only [↓reduceIte, ↓jn, gsL]; done) | rfl) ?_
  refine bS (by (try simp (disch := omega) only [fwI]); exact hn) ?_
  rw [dF (show ¬ (b : Int) = (d : Int) by omega), fw_s (by omega)]
  rfl
 exact (st 0 98 (f + 9) (by decide) rfl e1).trans <| (st 1 100 (f + 8) (by decide) rfl e2).trans <| (st 2 101 (f + 7) (by decide) rfl e3).trans <| (st 3 102 (f + 6) (by decide) rfl e4).trans <| (st 4 110 (f + 5) (by decide) rfl e5).trans <| (st 5 114 (f + 4) (by decide) rfl e6).trans <| (st 6 115 (f + 3) (by decide) rfl e7).trans <| (st 7 116 (f + 2) (by decide) rfl e8).trans (st 8 118 (f + 1) (by decide) rfl e9)
theorem rescape_t {k : Nat} (hk : 10 ≤ k) {s : List Nat} (hs : By s) (hl : Sz s) {a d f : Nat} {q : List Nat} (hr : s.drop (a + 1) = d :: q) (hd : nameN d = 0) :
 g46_l13 k s (a : Int) (d : Int) (f + 1) 9 = some (escB d q) := by
 have hl' := hl
 unfold Sz at hl
 have d256 := hs d (drop_mem hr)
 have dq : s.drop (a + 2) = q := drop_step hr
 have ql := drop_len hr
 rw [g46_l13_s]
 refine iF rfl ?_
 unfold escB
 by_cases h8 : 48 ≤ d ∧ d ≤ 55
 ·refine (jS (v := true) (fun j => ?_)).trans ?_
  ·simp (disch := omega) only [↓reduceIte, ↓jn, gsL]
  ·refine iT (by first | (simp (disch := omega) only [↓reduceIte, ↓jn, gsL]; done) | rfl) ?_
   rw [fw_s (by omega)]
   have r := rrunV_at (k := k) hs hl' (p := a + 1) (b := 8) (M := 3) (by decide) (by omega) (by decide) (by omega)
   rw [hr] at r
   refine bS (by (try simp (disch := omega) only [fwI]); exact r) ?_
   have := (digV_le 8 3 0 (d :: q)).1
   rw [show (1 : Int) = ((1 : Nat) : Int) from rfl, fw_a (by omega) (by omega)]
   rw [if_neg (show ¬ d = 120 by omega), if_neg (show ¬ d = 94 by omega), if_pos h8]
   rfl
 ·refine (jS (v := false) (fun j => ?_)).trans ?_
  ·by_cases h1 : 48 ≤ d
   ·simp (disch := omega) only [↓reduceIte, ↓jn, gsL]
   ·simp (disch := omega) only [↓reduceIte, ↓jn, gsL]
  ·refine iF (by first | (simp (disch := omega) only [↓reduceIte, ↓jn, gsL]; done) | rfl) ?_
   by_cases h120 : d = 120
   ·subst h120
    rw [if_pos rfl]
    cases q with
    | nil =>
     simp only [List.length_nil] at ql
     refine (jS (v := false) (fun j => ?_)).trans ?_
     ·simp (disch := omega) only [↓reduceIte, ↓jn, gsL]
     ·refine iF (by first | (simp (disch := omega) only [↓reduceIte, ↓jn, gsL]; done) | rfl) ?_
      refine iT (by first | (simp (disch := omega) only [↓reduceIte, ↓jn, gsL]; done) | rfl) ?_
      have r := rrunV_at (k := k) hs hl' (p := a + 2) (b := 16) (M := 2) (by decide) (by omega) (by decide) (by omega)
      rw [dq] at r
      rw [show fW .i64 ((a : Int) + 2) = ((a + 2 : Nat) : Int) from fw_a (m := 2) (by omega) (by omega)]
      refine bS (by (try simp (disch := omega) only [fwI]); exact r) ?_
      rfl
    | cons c r =>
     have hc := dq
     have c256 := hs c (drop_mem hc)
     simp only [List.length_cons] at ql
     have nc : nthS s ((a : Int) + 2) = some (c : Int) := nthX (i := a + 2) (by omega) hc
     have dr : s.drop (a + 3) = r := drop_step hc
     by_cases h123 : c = 123
     ·subst h123
      refine (jS (v := true) (fun j => ?_)).trans ?_
      ·simp (disch := omega) only [↓reduceIte, ↓jn, gsL, nc]
      ·refine iT (by first | (simp (disch := omega) only [↓reduceIte, ↓jn, gsL]; done) | rfl) ?_
       have rr := rrunV_at (k := k) hs hl' (p := a + 3) (b := 16) (M := 6) (by decide) (by omega) (by decide) (by omega)
       rw [dr] at rr
       rw [show fW .i64 ((a : Int) + 3) = ((a + 3 : Nat) : Int) from fw_a (m := 3) (by omega) (by omega)]
       refine bS (by (try simp (disch := omega) only [fwI]); exact rr) ?_
       have hvl := digV_le 16 6 0 r
       simp only [hexN, if_true]
       unfold hexBr
       by_cases h0 : (digV 16 6 0 r).2 = 0
       ·rw [if_pos h0]
        refine (jS (v := true) (fun j => ?_)).trans rfl
        rw [h0]; rfl
       ·rw [if_neg h0]
        have ee := fun _ : Unit => fw_a (n := a + 3) (m := (digV 16 6 0 r).2) (by omega) (by omega)
        have dz : s.drop (a + 3 + (digV 16 6 0 r).2) = r.drop (digV 16 6 0 r).2 := by rw [← List.drop_drop, dr]
        cases hz : r.drop (digV 16 6 0 r).2 with
        | nil =>
         have : s.length ≤ a + 3 + (digV 16 6 0 r).2 := by
          have := congrArg List.length (dz.trans hz)
          rw [List.length_drop, List.length_nil] at this
          omega
         refine (jS (v := true) (fun j => ?_)).trans rfl
         rw [ee ()]
         simp (disch := omega) only [↓reduceIte, ↓jn, gsL, h0]
        | cons z qq =>
         rw [hz] at dz
         have nz := nthX (x := ((a + 3 + (digV 16 6 0 r).2 : Nat) : Int)) rfl dz
         have zl := drop_len dz
         by_cases h125 : z = 125
         ·subst h125
          simp only [true_and]
          refine (jS (v := !cpN (digV 16 6 0 r).1) (fun j => ?_)).trans ?_
          ·rw [ee ()]
           simp (disch := omega) only [↓reduceIte, ↓jn, gsL, h0, nz, point_at]
          ·cases cpN (digV 16 6 0 r).1 with
           | false => rfl
           | true =>
            refine iF (by first | (simp (disch := omega) only [↓reduceIte, ↓jn, gsL]; done) | rfl) ?_
            rw [show (4 : Int) = ((4 : Nat) : Int) from rfl, fw_a (by omega) (by omega)]
            rfl
         ·simp only [h125, false_and, if_false]
          refine (jS (v := true) (fun j => ?_)).trans rfl
          rw [ee ()]
          have : ¬ (z : Int) = 125 := by omega
          simp (disch := omega) only [↓reduceIte, ↓jn, gsL, h0, nz, this]
     ·refine (jS (v := false) (fun j => ?_)).trans ?_
      ·have : ¬ (c : Int) = 123 := by omega
       simp (disch := omega) only [↓reduceIte, ↓jn, gsL, nc, this]
      ·refine iF (by first | (simp (disch := omega) only [↓reduceIte, ↓jn, gsL]; done) | rfl) ?_
       refine iT (by first | (simp (disch := omega) only [↓reduceIte, ↓jn, gsL]; done) | rfl) ?_
       have rr := rrunV_at (k := k) hs hl' (p := a + 2) (b := 16) (M := 2) (by decide) (by omega) (by decide) (by omega)
       rw [dq] at rr
       rw [show fW .i64 ((a : Int) + 2) = ((a + 2 : Nat) : Int) from fw_a (m := 2) (by omega) (by omega)]
       refine bS (by (try simp (disch := omega) only [fwI]); exact rr) ?_
       simp only [hexN, h123, if_false]
       unfold hex2
       by_cases h2 : (digV 16 2 0 (c :: r)).2 < 2
       ·rw [if_pos h2]; refine iT (by first | (simp (disch := omega) only [↓reduceIte, ↓jn, gsL]; done) | rfl) ?_; rfl
       ·rw [if_neg h2]; refine iF (by first | (simp (disch := omega) only [↓reduceIte, ↓jn, gsL]; done) | rfl) ?_; rfl
   ·rw [if_neg h120]
    refine (jS (v := false) (fun j => ?_)).trans ?_
    ·simp (disch := omega) only [↓reduceIte, ↓jn, gsL]
    ·refine iF (by first | (simp (disch := omega) only [↓reduceIte, ↓jn, gsL]; done) | rfl) ?_
     refine iF (by first | (simp (disch := omega) only [↓reduceIte, ↓jn, gsL]; done) | rfl) ?_
     by_cases h94 : d = 94
     ·subst h94
      rw [if_pos rfl]
      refine iT (by first | (simp (disch := omega) only [↓reduceIte, ↓jn, gsL]; done) | rfl) ?_
      cases q with
      | nil =>
       simp only [List.length_nil] at ql
       refine (jS (v := true) (fun j => ?_)).trans ?_
       ·simp (disch := omega) only [↓reduceIte, ↓jn, gsL]
       ·rfl
      | cons c r =>
       have hc := dq
       have c256 := hs c (drop_mem hc)
       simp only [List.length_cons] at ql
       have nc : nthS s ((a : Int) + 2) = some (c : Int) := nthX (i := a + 2) (by omega) hc
       by_cases h0 : c < 64 ∨ 95 < c ∧ (c < 97 ∨ 122 < c)
       ·simp only [ctlN, h0, if_true]
        refine (jS (v := true) (fun j => ?_)).trans rfl
        by_cases h1 : c < 64
        ·simp (disch := omega) only [↓reduceIte, ↓jn, gsL, nc]
        ·by_cases h2 : c < 97
         ·simp (disch := omega) only [↓reduceIte, ↓jn, gsL, nc]
         ·simp (disch := omega) only [↓reduceIte, ↓jn, gsL, nc]
       ·simp only [ctlN, h0, if_false]
        refine (jS (v := false) (fun j => ?_)).trans ?_
        ·by_cases h1 : 95 < c
         ·simp (disch := omega) only [↓reduceIte, ↓jn, gsL, nc]
         ·simp (disch := omega) only [↓reduceIte, ↓jn, gsL, nc]
        ·refine iF (by first | (simp (disch := omega) only [↓reduceIte, ↓jn, gsL]; done) | rfl) ?_
         refine bS (by (try simp (disch := omega) only [fwI]); exact nc) ?_
         rw [fwI (n := (c : Int)) (by omega) (by omega), (and31 c256).2]
     ·rw [if_neg h94, if_neg h8, if_pos hd]
      refine iF (by first | (simp (disch := omega) only [↓reduceIte, ↓jn, gsL]; done) | rfl) ?_
      have nx := rnext_at (k := k) (by omega) hs hl' (a + 1)
      rw [hr] at nx
      rw [fw_s (by omega)]
      refine bS (by (try simp (disch := omega) only [fwI]); exact nx) ?_
      unfold uniN
      obtain ⟨n, n1, n2, n3, n4, -⟩ := dec_size (s := d :: q) (by simp)
      by_cases h32 : (dec (d :: q)).1 < 32
      ·rw [if_pos h32]; refine iT (by first | (simp (disch := omega) only [↓reduceIte, ↓jn, gsL, h32]; done) | rfl) ?_; rfl
      ·rw [if_neg h32]; refine iF (by first | (simp (disch := omega) only [↓reduceIte, ↓jn, gsL, h32]; done) | rfl) ?_; rw [n1, show (1 : Int) = ((1 : Nat) : Int) from rfl, fw_a (by clear n1; omega) (by clear n1; omega), Nat.add_comm]; rfl
theorem rescape_at {k : Nat} (hk : 10 ≤ k) {s : List Nat} (hs : By s) (hl : Sz s) (a : Nat) : g46 k s (a : Int) = some (escN (s.drop a)) := by
 have hl' := hl
 unfold Sz at hl
 unfold g46
 have fail : ∀ (f : Bool → Option (Int × Int)) (g : (Bool → Option (Int × Int)) → Option (Int × Int)), f true = some (-1, 0) → (∀ j, g j = j true) → escN (s.drop a) = (-1, 0) → jn f g = some (escN (s.drop a)) := by
  intro f g hf hg he
  rw [he]; exact (hg f).trans hf
 rcases Nat.lt_or_ge a s.length with h | h
 ·obtain ⟨c, r, hc, hr, hm, hrl⟩ := dcons h
  have nc := nthX (x := (a : Int)) rfl hc
  cases hr2 : r with
  | nil =>
   rw [hr2] at hrl hc
   simp only [List.length_nil] at hrl
   refine fail _ _ rfl (fun j => ?_) (by rw [hc]; rfl)
   simp (disch := omega) only [↓reduceIte, ↓jn, gsL]
  | cons d q =>
   rw [hr2] at hr hrl hc
   have d256 := hs d (drop_mem hr)
   simp only [List.length_cons] at hrl
   by_cases h92 : c = 92
   ·subst h92
    have nd : nthS s ((a : Int) + 1) = some (d : Int) := nthX (i := a + 1) (by omega) hr
    refine (jS (v := false) (fun j => ?_)).trans ?_
    ·simp (disch := omega) only [↓reduceIte, ↓jn, gsL, nc]
    ·refine iF (by first | (simp (disch := omega) only [↓reduceIte, ↓jn, gsL]; done) | rfl) ?_
     refine bS (by (try simp (disch := omega) only [fwI]); exact nd) ?_
     rw [hc]
     simp only [escN, if_true]
     obtain ⟨k', rfl⟩ : ∃ k', k = k' + 10 := ⟨k - 10, by omega⟩
     by_cases hd : nameN d = 0
     ·rw [rname_no _ _ _ hd]
      exact rescape_t hk hs hl' hr hd
     ·unfold nameN at hd
      by_cases e1 : d = 98
      ·subst e1; rfl
      by_cases e2 : d = 100
      ·subst e2; rfl
      by_cases e3 : d = 101
      ·subst e3; rfl
      by_cases e4 : d = 102
      ·subst e4; rfl
      by_cases e5 : d = 110
      ·subst e5; rfl
      by_cases e6 : d = 114
      ·subst e6; rfl
      by_cases e7 : d = 115
      ·subst e7; rfl
      by_cases e8 : d = 116
      ·subst e8; rfl
      by_cases e9 : d = 118
      ·subst e9; rfl
      simp only [e1, e2, e3, e4, e5, e6, e7, e8, e9, if_false] at hd
      exact absurd trivial hd
   ·refine fail _ _ rfl (fun j => ?_) (by rw [hc]; exact escN_no h92)
    have h92' : ¬ (c : Int) = 92 := by omega
    simp (disch := omega) only [↓reduceIte, ↓jn, gsL, nc, h92']
 ·refine fail _ _ rfl (fun j => ?_) (by rw [dnil h]; rfl)
  simp (disch := omega) only [↓reduceIte, ↓jn, gsL]
end Go.Proofs.Ytokcjgjgojlhbaa.Am
set_option maxRecDepth 100000
set_option linter.unusedVariables false
set_option linter.unusedSimpArgs false
namespace Go.Proofs.Ytokcjgjgojlhbaa.Am
open Go
theorem dg10 {c : Nat} (hc : c < 256) (h : dgN c < 10) : fW .i64 (fW .u8 ((c : Int) - 48)) = ((dgN c : Nat) : Int) := by
 have w := byteAll (f := fun c => !decide (dgN c < 10) || decide (fW .i64 (fW .u8 ((c : Int) - 48)) = ((dgN c : Nat) : Int))) (by decide +kernel) hc
 simpa [h] using w
theorem rwhole_e (k : Nat) {s : List Nat} (hk : s.length < k) (hs : By s) (hl : Sz s) (c8 : Unit → Option Int) {a m V n f : Nat} (hV : V ≤ 99) (h : a + m + 1 ≤ s.length) :
 g44_l6 k c8 s (a : Int) (n : Int) (m : Int) (f + 1) (V : Int) ((a + m : Nat) : Int) = if (2 ≤ V ∧ V ≤ 36) ∧ 0 < runN V false (s.drop (a + m + 1)) then some ((m + 1 + runN V false (s.drop (a + m + 1)) : Nat) : Int) else c8 () := by
 rw [g44_l6_s]
 have r := rrun_at hk hs hl hV h
 unfold Sz at hl
 have l := runN_le V false (s.drop (a + m + 1))
 rw [List.length_drop] at l
 have e : ((a : Int) + (m : Int)) = ((a + m : Nat) : Int) := by omega
 have e1 : (((a + m : Nat) : Int) + 1) = ((a + m + 1 : Nat) : Int) := by omega
 refine iF (by first | (simp (disch := omega) only [↓reduceIte, ↓jn, gsL]; done) | rfl) ?_
 rw [fwI (n := (a : Int) + (m : Int)) (by omega) (by omega), e, fwI (n := ((a + m : Nat) : Int) + 1) (by omega) (by omega), e1]
 refine bS (by (try simp (disch := omega) only [fwI]); exact r) ?_
 generalize runN V false (s.drop (a + m + 1)) = K at *
 clear r
 refine (jS (v := decide ((2 ≤ V ∧ V ≤ 36) ∧ 0 < K)) (fun j => ?_)).trans ?_
 ·by_cases h1 : 2 ≤ V
  ·by_cases h2 : V ≤ 36
   ·by_cases h3 : 0 < K
    ·simp (disch := omega) only [↓reduceIte, ↓jn, gsL, h1, h2, h3, and_self]
    ·simp (disch := omega) only [↓reduceIte, ↓jn, gsL, h1, h2, h3, and_self, and_false]
   ·simp (disch := omega) only [↓reduceIte, ↓jn, gsL, h1, h2, and_false, false_and]
  ·simp (disch := omega) only [↓reduceIte, ↓jn, gsL, h1, false_and]
 ·by_cases h0 : (2 ≤ V ∧ V ≤ 36) ∧ 0 < K
  ·rw [if_pos h0]
   refine iT (by first | (simp (disch := omega) only [↓reduceIte, ↓jn, gsL, h0]; done) | rfl) ?_
   simp (disch := omega) only [↓reduceIte, ↓jn, gsL]
   exact congrArg some (by omega)
  ·rw [if_neg h0]
   refine iF (by first | (simp (disch := omega) only [↓reduceIte, ↓jn, gsL, h0]; done) | rfl) ?_
   rfl
theorem rwhole_s (k : Nat) {s : List Nat} (hs : By s) (hl : Sz s) (c8 : Unit → Option Int) {a m V n f i c : Nat} {r : List Nat} (hc : s.drop i = c :: r) (hd : dgN c < 10) (hi : i < a + m) (ha : a + m ≤ s.length) (hV : V ≤ 9) :
 g44_l6 k c8 s (a : Int) (n : Int) (m : Int) (f + 1) (V : Int) (i : Int) = g44_l6 k c8 s (a : Int) (n : Int) (m : Int) f ((10 * V + dgN c : Nat) : Int) ((i + 1 : Nat) : Int) := by
 unfold Sz at hl
 rw [g44_l6_s]
 have c256 := hs c (drop_mem hc)
 refine iT (by first | (simp (disch := omega) only [↓reduceIte, ↓jn, gsL]; done) | rfl) ?_
 refine bS (by (try simp (disch := omega) only [fwI]); exact nthX rfl hc) ?_
 rw [dg10 c256 hd]
 have e1 : ((V : Int) * 10 + (dgN c : Nat)) = ((10 * V + dgN c : Nat) : Int) := by omega
 have e2 : ((i : Int) + 1) = ((i + 1 : Nat) : Int) := by omega
 simp (disch := omega) only [fwI]
 rw [e1, e2]
theorem rwhole_at {k : Nat} {s : List Nat} (hk : s.length < k) (hk3 : 4 ≤ k) (hs : By s) (hl : Sz s) {a : Nat} (ha : a ≤ s.length) : g44 k s (a : Int) = some ((wholeN (s.drop a) : Nat) : Int) := by
 have r1 : g59 k s (a : Int) 10 true = some ((runN 10 false (s.drop a) : Nat) : Int) := rrun_at hk hs hl (b := 10) (by decide) ha
 have r2 := rbar_at hk hs hl ha
 have hl' := hl
 unfold Sz at hl
 unfold g44
 refine bS (by (try simp (disch := omega) only [fwI]); exact r1) ?_
 refine bS (by (try simp (disch := omega) only [fwI]); exact r2) ?_
 obtain ⟨k', rfl⟩ : ∃ k', k = k' + 4 := ⟨k - 4, by omega⟩
 have bl := barN_le 10 (s.drop a)
 rw [List.length_drop] at bl
 have no : frontN (s.drop a) = (0, 10) → wholeN (s.drop a) = runN 10 false (s.drop a) := by
  intro h; unfold wholeN; rw [h]; rfl
 have yes : ∀ m V, frontN (s.drop a) = (m + 1, V) → wholeN (s.drop a) = if 0 < runN V false (s.drop (a + m + 1)) then m + 1 + runN V false (s.drop (a + m + 1)) else runN 10 false (s.drop a) := by
  intro m V h; unfold wholeN; rw [h]; simp only [List.drop_drop, Nat.add_assoc, Nat.succ_pos, true_and]
 clear r1 r2
 generalize hn : runN 10 false (s.drop a) = n at *
 cases ht : s.drop a with
 | nil =>
  rw [ht] at no
  rw [no rfl]
  refine (jS (v := false) (fun j => rfl)).trans ?_
  rfl
 | cons p r =>
  have hp := hs p (drop_mem ht)
  have tl := drop_len ht
  have dr := drop_step ht
  by_cases h1 : dgN p < 10
  ·cases hr : r with
   | nil =>
    rw [hr] at ht tl dr
    rw [ht] at no
    have e3 : barN 10 [p] = 1 := by simp only [barN, h1, if_true]
    rw [no rfl, e3]
    simp only [List.length_nil] at tl
    refine (jS (v := false) (fun j => by simp (disch := omega) only [↓reduceIte, ↓jn, gsL])).trans ?_
    rfl
   | cons q r' =>
    rw [hr] at ht tl dr
    have hq := hs q (drop_mem dr)
    have dr' := drop_step dr
    have tl' := drop_len dr
    by_cases h2 : dgN q < 10
    ·have hq35 : ¬ q = 35 := by intro h; rw [h] at h2; exact dg_35 h2
     cases hr' : r' with
     | nil =>
      rw [hr'] at ht tl dr dr'
      rw [ht] at no
      have e3 : barN 10 [p, q] = 2 := by simp only [barN, h1, h2, if_true]
      have e4 : frontN [p, q] = (0, 10) := by simp only [frontN, h1, h2, hq35, if_true, if_false]
      rw [no e4, e3]
      simp only [List.length_cons, List.length_nil] at tl
      refine (jS (v := false) (fun j => by simp (disch := omega) only [↓reduceIte, ↓jn, gsL])).trans ?_
      rfl
     | cons c r'' =>
      rw [hr'] at ht tl dr dr'
      have hc := hs c (drop_mem dr')
      by_cases h3 : dgN c < 10
      ·have hc35 : ¬ c = 35 := by intro h; rw [h] at h3; exact dg_35 h3
       have e3 : barN 10 (p :: q :: c :: r'') = barN 10 r'' + 3 := by simp only [barN, h1, h2, h3, if_true]
       have e4 : frontN (p :: q :: c :: r'') = (0, 10) := by simp only [frontN, h1, h2, hq35, hc35, if_true, if_false, false_and]
       rw [ht] at no
       rw [no e4, e3]
       refine (jS (v := false) (fun j => by simp (disch := omega) only [↓reduceIte, ↓jn, gsL])).trans ?_
       rfl
      ·have e3 : barN 10 (p :: q :: c :: r'') = 2 := by simp only [barN, h1, h2, h3, if_true, if_false]
       have nc : nthS s ((a : Int) + ((2 : Nat) : Int)) = some (c : Int) := nthX (by omega) dr'
       simp only [List.length_cons] at tl
       by_cases hc35 : c = 35
       ·subst hc35
        have go := rwhole_e (k' + 4) hk hs hl' (n := n) (a := a) (m := 2) (f := k' + 1) (V := 10 * (10 * 0 + dgN p) + dgN q)
        have st1 := fun c8 => rwhole_s (k' + 4) hs hl' c8 (n := n) (a := a) (m := 2) (f := k' + 3) (V := 0) ht h1 (by omega) (by omega) (by omega)
        have st2 := fun c8 => rwhole_s (k' + 4) hs hl' c8 (n := n) (a := a) (m := 2) (f := k' + 2) (V := 10 * 0 + dgN p) dr h2 (by omega) (by omega) (by omega)
        rw [show 10 * 0 + dgN p = dgN p by omega] at *
        rw [e3]
        refine (jS (v := true) (fun j => ?_)).trans ?_
        ·simp (disch := omega) only [↓reduceIte, ↓jn, gsL, nc]
        ·by_cases hf : 2 ≤ 10 * dgN p + dgN q ∧ 10 * dgN p + dgN q ≤ 36
         ·have e4 : frontN (p :: q :: 35 :: r'') = (2 + 1, 10 * dgN p + dgN q) := by simp only [frontN, h1, h2, hq35, hf, if_true, if_false, and_self]
          rw [ht] at yes
          rw [yes 2 _ e4]
          by_cases hK : 0 < runN (10 * dgN p + dgN q) false (s.drop (a + 2 + 1))
          ·refine jC fun j => ?_
           refine iT (by first | (simp (disch := omega) only [↓reduceIte, ↓jn, gsL]; done) | rfl) ?_
           refine (st1 j).trans ((st2 j).trans ((go j (by omega) (by omega)).trans ?_))
           rw [if_pos ⟨hf, hK⟩, if_pos hK]
          ·refine (jS (v := ()) (fun j => ?_)).trans ?_
           ·refine iT (by first | (simp (disch := omega) only [↓reduceIte, ↓jn, gsL]; done) | rfl) ?_
            refine (st1 j).trans ((st2 j).trans ((go j (by omega) (by omega)).trans ?_))
            rw [if_neg (fun h => hK h.2)]
           ·rw [if_neg hK]
         ·have e4 : frontN (p :: q :: 35 :: r'') = (0, 10) := by simp only [frontN, h1, h2, hq35, if_true, if_false, true_and, hf]
          rw [ht] at no
          rw [no e4]
          refine (jS (v := ()) (fun j => ?_)).trans rfl
          refine iT (by first | (simp (disch := omega) only [↓reduceIte, ↓jn, gsL]; done) | rfl) ?_
          refine (st1 j).trans ((st2 j).trans ((go j (by omega) (by omega)).trans ?_))
          rw [if_neg (fun h => hf h.1)]
       ·have e4 : frontN (p :: q :: c :: r'') = (0, 10) := by simp only [frontN, h1, h2, hq35, hc35, if_true, if_false, false_and]
        rw [ht] at no
        rw [no e4, e3]
        refine (jS (v := false) (fun j => by simp (disch := omega) only [↓reduceIte, ↓jn, gsL, nc])).trans ?_
        rfl
    ·have e3 : barN 10 (p :: q :: r') = 1 := by simp only [barN, h1, h2, if_true, if_false]
     have nc : nthS s ((a : Int) + ((1 : Nat) : Int)) = some (q : Int) := nthX (by omega) dr
     simp only [List.length_cons] at tl
     by_cases hq35 : q = 35
     ·subst hq35
      have go := rwhole_e (k' + 4) hk hs hl' (n := n) (a := a) (m := 1) (f := k' + 2) (V := 10 * 0 + dgN p)
      have st1 := fun c8 => rwhole_s (k' + 4) hs hl' c8 (n := n) (a := a) (m := 1) (f := k' + 3) (V := 0) ht h1 (by omega) (by omega) (by omega)
      rw [show 10 * 0 + dgN p = dgN p by omega] at *
      rw [e3]
      refine (jS (v := true) (fun j => ?_)).trans ?_
      ·simp (disch := omega) only [↓reduceIte, ↓jn, gsL, nc]
      ·by_cases hf : 2 ≤ dgN p
       ·have e4 : frontN (p :: 35 :: r') = (1 + 1, dgN p) := by simp only [frontN, h1, hf, if_true]
        rw [ht] at yes
        rw [yes 1 _ e4]
        by_cases hK : 0 < runN (dgN p) false (s.drop (a + 1 + 1))
        ·refine jC fun j => ?_
         refine iT (by first | (simp (disch := omega) only [↓reduceIte, ↓jn, gsL]; done) | rfl) ?_
         refine (st1 j).trans ((go j (by omega) (by omega)).trans ?_)
         rw [if_pos ⟨⟨hf, by omega⟩, hK⟩, if_pos hK]
        ·refine (jS (v := ()) (fun j => ?_)).trans ?_
         ·refine iT (by first | (simp (disch := omega) only [↓reduceIte, ↓jn, gsL]; done) | rfl) ?_
          refine (st1 j).trans ((go j (by omega) (by omega)).trans ?_)
          rw [if_neg (fun h => hK h.2)]
         ·rw [if_neg hK]
       ·have e4 : frontN (p :: 35 :: r') = (0, 10) := by simp only [frontN, h1, hf, if_true, if_false]
        rw [ht] at no
        rw [no e4]
        refine (jS (v := ()) (fun j => ?_)).trans rfl
        refine iT (by first | (simp (disch := omega) only [↓reduceIte, ↓jn, gsL]; done) | rfl) ?_
        refine (st1 j).trans ((go j (by omega) (by omega)).trans ?_)
        rw [if_neg (fun h => hf h.1.1)]
     ·have e4 : frontN (p :: q :: r') = (0, 10) := by simp only [frontN, h1, h2, hq35, if_true, if_false]
      rw [ht] at no
      rw [no e4, e3]
      refine (jS (v := false) (fun j => by simp (disch := omega) only [↓reduceIte, ↓jn, gsL, nc])).trans ?_
      rfl
  ·have e4 : frontN (p :: r) = (0, 10) := by cases r <;> simp only [frontN, h1, if_false]
   have e3 : barN 10 (p :: r) = 0 := by simp only [barN, h1, if_false]
   rw [ht] at no
   rw [no e4, e3]
   refine (jS (v := false) (fun j => rfl)).trans rfl
theorem rbroken_at {k : Nat} {s : List Nat} (hk : s.length < k) (hs : By s) (hl : Sz s) {a : Nat} (ha : a ≤ s.length) : g43 k s (a : Int) = some ((partN (s.drop a) : Nat) : Int) := by
 have R : ∀ i, i ≤ s.length → g59 k s (i : Int) 10 true = some ((runN 10 false (s.drop i) : Nat) : Int) := fun i hi => rrun_at hk hs hl (b := 10) (by decide) hi
 unfold Sz at hl
 unfold g43 partN
 have r0 := R a ha
 have l0 := runN_le 10 false (s.drop a)
 rw [List.length_drop] at l0
 refine bS (by (try simp (disch := omega) only [fwI]); exact r0) ?_
 rw [List.drop_drop]
 generalize runN 10 false (s.drop a) = n at *
 clear r0
 by_cases h0 : n = 0
 ·subst h0
  refine (jS (v := true) (fun j => ?_)).trans rfl
  have e : fW .i64 ((a : Int) + ((0 : Nat) : Int)) = (a : Int) := by rw [fwI (by omega) (by omega)]; omega
  rw [e]
  simp (disch := omega) only [↓reduceIte, ↓jn, gsL]
 rcases Nat.lt_or_ge (a + n) s.length with hn | hn
 ·obtain ⟨c, r, hc, hr, hm, hrl⟩ := dcons hn
  have nc : nthS s ((a : Int) + (n : Int)) = some (c : Int) := nthX (by omega) hc
  have na : ¬ (a : Int) + (n : Int) = a := by omega
  by_cases h46 : c = 46
  ·subst h46
   refine (jS (v := false) (fun j => by simp (disch := omega) only [↓reduceIte, ↓jn, gsL, nc, na])).trans ?_
   refine iF (by first | (simp (disch := omega) only [↓reduceIte, ↓jn, gsL]; done) | rfl) ?_
   have r1 := R (a + n + 1) (by omega)
   have l1 := runN_le 10 false r
   rw [hr] at r1
   have a1 : ∀ j, s.drop (a + n + 1 + j) = r.drop j := by intro j; rw [← List.drop_drop, hr]
   have e1 : fW .i64 (fW .i64 ((a : Int) + (n : Int)) + 1) = ((a + n + 1 : Nat) : Int) := by rw [fwI (n := (a : Int) + (n : Int)) (by omega) (by omega), fwI (by omega) (by omega)]; omega
   simp only [hc, fracN, h0, if_true, if_false]
   rw [e1]
   refine bS (by (try simp (disch := omega) only [fwI]); exact r1) ?_
   generalize runN 10 false r = m at *
   by_cases m0 : m = 0
   ·refine iT (by first | (simp (disch := omega) only [↓reduceIte, ↓jn, gsL, m0]; done) | rfl) ?_
    rw [if_pos m0]; rfl
   ·refine iF (by first | (simp (disch := omega) only [↓reduceIte, ↓jn, gsL]; done) | rfl) ?_
    rw [if_neg m0]
    rcases Nat.lt_or_ge (a + n + 1 + m) s.length with h1 | h1
    ·obtain ⟨e, q, he, hq, hem, hql⟩ := dcons h1
     have he' := he
     rw [a1] at he'
     have ne : nthS s (((a + n + 1 : Nat) : Int) + m) = some (e : Int) := nthX (by omega) he
     rw [he']
     by_cases hE : e = 101 ∨ e = 69
     ·simp only [expN, hE, if_true]
      refine (jS (v := true) (fun j => ?_)).trans ?_
      ·rcases hE with rfl | rfl <;> simp (disch := omega) only [↓reduceIte, ↓jn, gsL, ne]
      have hs' := sgn_le q
      have dd : s.drop (a + n + 1 + m + 1 + sgn q) = q.drop (sgn q) := by rw [← List.drop_drop, hq]
      have o1 := R (a + n + 1 + m + 1 + sgn q) (by omega)
      rw [dd] at o1
      have o3 : runN 10 false (q.drop (sgn q)) ≤ q.length - sgn q := by
       have := runN_le 10 false (q.drop (sgn q))
       rwa [List.length_drop] at this
      generalize hz : runN 10 false (q.drop (sgn q)) = z at *
      have fin : ∀ (x y : Int) (j : Int → Option Int), x = ((a + n + 1 + m + 1 + sgn q : Nat) : Int) → ((g59 k s x 10 true).bind fun x5_2 => if decide (0 < x5_2) then j (fW .i64 (x + x5_2)) else j y) = if 0 < z then j (x + z) else j y := by
       intro x y j hx
       subst hx
       refine bS (by (try simp (disch := omega) only [fwI]); exact o1) ?_
       by_cases h : 0 < z
       ·rw [if_pos h]; refine iT (by first | (simp (disch := omega) only [↓reduceIte, ↓jn, gsL]; done) | rfl) ?_; rw [fwI (by omega) (by omega)]
       ·rw [if_neg h]; refine iF (by first | (simp (disch := omega) only [↓reduceIte, ↓jn, gsL]; done) | rfl) ?_; rfl
      refine (jS (v := if 0 < z then ((a + n + 1 + m + 1 + sgn q + z : Nat) : Int) else ((a + n + 1 + m : Nat) : Int)) (fun j => ?_)).trans ?_
      ·refine iT (by first | (simp (disch := omega) only [↓reduceIte, ↓jn, gsL]; done) | rfl) ?_
       have key : ∀ b : Nat, b = sgn q → (jn (fun (z10 : Int) => (g59 k s z10 10 true).bind fun x5_2 => if (decide (0 < x5_2)) then (j (fW .i64 (z10 + x5_2))) else (j (fW .i64 (((a + n + 1 : Nat) : Int) + m)))) (fun j10 => if decide (b = 1) then (j10 (fW .i64 (fW .i64 (fW .i64 (((a + n + 1 : Nat) : Int) + m) + 1) + 1))) else (j10 (fW .i64 (fW .i64 (((a + n + 1 : Nat) : Int) + m) + 1))))) = j (if 0 < z then ((a + n + 1 + m + 1 + sgn q + z : Nat) : Int) else ((a + n + 1 + m : Nat) : Int)) := by
        intro b hb
        refine (jS (v := ((a + n + 1 + m + 1 + sgn q : Nat) : Int)) (fun j => ?_)).trans ?_
        ·have hb01 : b = 0 ∨ b = 1 := by
          rw [hb]; unfold sgn; split
          ·split <;> simp
          ·simp
         rcases hb01 with rfl | rfl
         ·simp (disch := omega) only [↓reduceIte, ↓jn, gsL]
          exact congrArg j (by omega)
         ·simp (disch := omega) only [↓reduceIte, ↓jn, gsL]
          exact congrArg j (by omega)
        ·refine (fin _ _ j rfl).trans ?_
         by_cases h : 0 < z
         ·rw [if_pos h, if_pos h]; exact congrArg j (by omega)
         ·rw [if_neg h, if_neg h]; rw [fwI (by omega) (by omega)]; exact congrArg j (by omega)
       cases q with
       | nil =>
        simp only [List.length_nil] at hql
        refine (jS (v := false) (fun j => ?_)).trans ?_
        ·simp (disch := omega) only [↓reduceIte, ↓jn, gsL]
        ·exact key 0 rfl
       | cons d q =>
        simp only [List.length_cons] at hql
        have nd : nthS s (((a + n + 1 : Nat) : Int) + m + 1) = some (d : Int) := nthX (i := a + n + 1 + m + 1) (by omega) hq
        by_cases hd : d = 43 ∨ d = 45
        ·refine (jS (v := true) (fun j => ?_)).trans ?_
         ·rcases hd with rfl | rfl <;> simp (disch := omega) only [↓reduceIte, ↓jn, gsL, nd]
         ·exact key 1 (by simp only [sgn, hd, if_true])
        ·have d1 : ¬ (d : Int) = 43 := by omega
         have d2 : ¬ (d : Int) = 45 := by omega
         refine (jS (v := false) (fun j => ?_)).trans ?_
         ·simp (disch := omega) only [↓reduceIte, ↓jn, gsL, nd, d1, d2]
         ·exact key 0 (by simp only [sgn, hd, if_false])
      ·by_cases h : 0 < z
       ·rw [if_pos h, if_pos h]; simp (disch := omega) only [↓reduceIte, ↓jn, gsL]; exact congrArg some (by omega)
       ·rw [if_neg h, if_neg h]; simp (disch := omega) only [↓reduceIte, ↓jn, gsL]; exact congrArg some (by omega)
     ·have e1 : ¬ (e : Int) = 101 := by omega
      have e2 : ¬ (e : Int) = 69 := by omega
      simp only [expN, hE, if_false]
      refine (jS (v := false) (fun j => by simp (disch := omega) only [↓reduceIte, ↓jn, gsL, ne, e1, e2])).trans ?_
      refine (jS (v := ((a + n + 1 + m : Nat) : Int)) (fun j => ?_)).trans ?_
      ·refine iF (by first | (simp (disch := omega) only [↓reduceIte, ↓jn, gsL]; done) | rfl) ?_
       rw [fwI (by omega) (by omega)]; exact congrArg j (by omega)
      ·simp (disch := omega) only [↓reduceIte, ↓jn, gsL]
       exact congrArg some (by omega)
    ·have he : r.drop m = [] := by rw [← a1]; exact dnil h1
     simp only [he, expN]
     refine (jS (v := false) (fun j => by simp (disch := omega) only [↓reduceIte, ↓jn, gsL])).trans ?_
     refine (jS (v := ((a + n + 1 + m : Nat) : Int)) (fun j => ?_)).trans ?_
     ·refine iF (by first | (simp (disch := omega) only [↓reduceIte, ↓jn, gsL]; done) | rfl) ?_
      rw [fwI (by omega) (by omega)]; exact congrArg j (by omega)
     ·simp (disch := omega) only [↓reduceIte, ↓jn, gsL]
      exact congrArg some (by omega)
  ·have c46 : ¬ (c : Int) = 46 := by omega
   refine (jS (v := true) (fun j => by simp (disch := omega) only [↓reduceIte, ↓jn, gsL, nc, na, c46])).trans ?_
   refine iT (by first | (simp (disch := omega) only [↓reduceIte, ↓jn, gsL]; done) | rfl) ?_
   rw [hc]
   simp only [fracN, h0, h46, if_false]; rfl
 ·refine (jS (v := true) (fun j => by simp (disch := omega) only [↓reduceIte, ↓jn, gsL])).trans ?_
  refine iT (by first | (simp (disch := omega) only [↓reduceIte, ↓jn, gsL]; done) | rfl) ?_
  rw [dnil hn]
  simp only [fracN, h0, if_false]; rfl
end Go.Proofs.Ytokcjgjgojlhbaa.Am
set_option maxRecDepth 100000
set_option linter.unusedVariables false
namespace Go.Proofs.Ytokcjgjgojlhbaa.Am
noncomputable section
open Go
def X17 : Fx Int := ⟨Try.prog, cx, Try.f17, fun r => .int .i64 r, 0, fun _ => H0, cxTi, cxOrd⟩
def g17p0 : Pt := nav [0] (bodyAt Try.f17)
def g17p1 : Pt := nav [0, 0, 0, 0, 0] g17p0
def g17p2 : Pt := nav [0, 0, 0] g17p1
def g17p3 : Pt := nav [0, 0] g17p2
def g17_l1 (k : Nat)  (a0 : (List Nat)) (n : Nat) : Int → Option Int :=
 Nat.rec (motive := fun _ => Int → Option Int) (fun _ => none) (fun _ ih => fun (y1_0 : Int) => jn (fun (z2 : Bool × Int) => if z2.1 then (ih (fW .i64 (z2.2 + 1))) else (some z2.2)) (fun j2 => if (decide (y1_0 < (a0.length : Int))) then ((nthS a0 y1_0).bind fun x0_7 => if (decide (x0_7 = 32)) then (j2 (true, y1_0)) else ((nthS a0 y1_0).bind fun x0_12 => if (decide (x0_12 = 9)) then (j2 (true, y1_0)) else ((nthS a0 y1_0).bind fun x0_18 => if (decide (x0_18 = 10)) then (j2 (true, y1_0)) else ((nthS a0 y1_0).bind fun x0_24 => j2 (decide (x0_24 = 13), y1_0))))) else (j2 (false, y1_0)))) n
theorem g17_l1_s (k : Nat)  (a0 : (List Nat)) (n : Nat) (y1_0 : Int) : g17_l1 k a0 (n + 1) y1_0 = (jn (fun (z2 : Bool × Int) => if z2.1 then ((g17_l1 k a0 n) (fW .i64 (z2.2 + 1))) else (some z2.2)) (fun j2 => if (decide (y1_0 < (a0.length : Int))) then ((nthS a0 y1_0).bind fun x0_7 => if (decide (x0_7 = 32)) then (j2 (true, y1_0)) else ((nthS a0 y1_0).bind fun x0_12 => if (decide (x0_12 = 9)) then (j2 (true, y1_0)) else ((nthS a0 y1_0).bind fun x0_18 => if (decide (x0_18 = 10)) then (j2 (true, y1_0)) else ((nthS a0 y1_0).bind fun x0_24 => j2 (decide (x0_24 = 13), y1_0))))) else (j2 (false, y1_0)))) := rfl
theorem g17_l1_ok (k : Nat)  (a0 : (List Nat))  : ∀ (n : Nat) (y1_0 : Int), Ok X17 g17p1 [(0, .str a0), (1, .int .i64 y1_0)] (mkH []) (g17_l1 k a0 n y1_0)
 | 0, _ => ok_none
 | n + 1, y1_0 => by
  have ih := g17_l1_ok k a0 n
  rw [g17_l1_s]
  refine ok_ent (p' := nav [0] g17p1) (by kernel_rfl) ?_
  let E1 : Env := [(9, .bool (decide (y1_0 < (a0.length : Int)))), (8, .bool (decide (y1_0 < (a0.length : Int)))), (7, .int .i64 (a0.length : Int)), (6, .str a0), (5, .int .i64 y1_0), (0, .str a0), (1, .int .i64 y1_0)]
  refine oR 8 (p' := (atN 5 (ctl1 g17p2))) (eE := E1) (H' := (mkH [])) (by kernel_rfl) ?_
  refine oJ (f := fun (z2 : Bool × Int) => if z2.1 then ((g17_l1 k a0 n) (fW .i64 (z2.2 + 1))) else (some z2.2)) g17p3 (fun (z2 : Bool × Int) => [(0, .str a0), (1, .int .i64 z2.2), (32, .bool z2.1)]) (fun (z2 : Bool × Int) => (mkH [])) (fun z2 => ?_) (fun j2 hj2 => ?_)
  ·refine oS 32 (b := z2.1) (by kernel_rfl) (fun hb => ?_) (fun hb => ?_)
   ·let E2 : Env := [(1, .int .i64 (fW .i64 (z2.2 + 1))), (34, .int .i64 (fW .i64 (z2.2 + 1))), (33, .int .i64 z2.2), (32, .bool true), (0, .str a0), (1, .int .i64 z2.2), (32, .bool z2.1)]
    refine oR 8 (p' := g17p1) (eE := E2) (H' := (mkH [])) (by kernel_rfl) ?_
    refine oK [0, 1] (eE := [(0, .str a0), (1, .int .i64 (fW .i64 (z2.2 + 1)))]) (by kernel_rfl) ?_
    exact ih (fW .i64 (z2.2 + 1))
   ·let E3 : Env := [(4, .int .i64 z2.2), (35, .int .i64 z2.2), (32, .bool false), (0, .str a0), (1, .int .i64 z2.2), (32, .bool z2.1)]
    refine oR 8 (p' := .fin) (eE := E3) (H' := (mkH [])) (by kernel_rfl) ?_
    exact oT (r := z2.2) (xs := [.int .i64 z2.2]) (v := .int .i64 z2.2) (by kernel_rfl) (by kernel_rfl) (by kernel_rfl) (.pures (by kernel_rfl)) (by kernel_rfl)
  ·refine oS 9 (b := decide (y1_0 < (a0.length : Int))) (by kernel_rfl) (fun hb => ?_) (fun hb => ?_)
   ·refine oR 2 (p' := (atN 7 (ctl1 g17p2))) (eE := ((11, .int .i64 y1_0) :: (10, .str a0) :: (9, .bool true) :: E1)) (H' := (mkH [])) (by kernel_rfl) ?_
    refine oH (fun (x0_7 : Int) => (.int .u8 x0_7, (mkH []))) (atN 8 (ctl1 g17p2)) (fun x0_7 => ((12, .int .u8 x0_7) :: (11, .int .i64 y1_0) :: (10, .str a0) :: (9, .bool true) :: E1)) (idxH (by kernel_rfl)) (fun _ => by kernel_rfl) (fun x0_7 hx0_7 => ?_)
    let E4 : Env := ((14, .bool (decide (x0_7 = 32))) :: (13, .bool (decide (x0_7 = 32))) :: (12, .int .u8 x0_7) :: (11, .int .i64 y1_0) :: (10, .str a0) :: (9, .bool true) :: E1)
    refine oR 2 (p' := (atN 10 (ctl1 g17p2))) (eE := E4) (H' := (mkH [])) (by kernel_rfl) ?_
    refine oS 14 (b := decide (x0_7 = 32)) (by kernel_rfl) (fun hb => ?_) (fun hb => ?_)
    ·let E5 : Env := ((32, .bool true) :: (31, .bool true) :: (30, .tuple []) :: (29, .tuple []) :: (28, .tuple []) :: (27, .tuple []) :: (26, .bool true) :: (25, .bool true) :: (24, .tuple []) :: (23, .tuple []) :: (22, .tuple []) :: (21, .tuple []) :: (20, .bool true) :: (19, .bool true) :: (18, .tuple []) :: (17, .tuple []) :: (16, .tuple []) :: (15, .tuple []) :: (14, .bool true) :: E4)
     refine oR 19 (p' := g17p3) (eE := E5) (H' := (mkH [])) (by kernel_rfl) ?_
     refine oK [0, 1, 32] (eE := [(0, .str a0), (1, .int .i64 y1_0), (32, .bool true)]) (by kernel_rfl) ?_
     exact hj2 (true, y1_0)
    ·refine oR 2 (p' := (atN 12 (ctl1 g17p2))) (eE := ((16, .int .i64 y1_0) :: (15, .str a0) :: (14, .bool false) :: E4)) (H' := (mkH [])) (by kernel_rfl) ?_
     refine oH (fun (x0_12 : Int) => (.int .u8 x0_12, (mkH []))) (atN 13 (ctl1 g17p2)) (fun x0_12 => ((17, .int .u8 x0_12) :: (16, .int .i64 y1_0) :: (15, .str a0) :: (14, .bool false) :: E4)) (idxH (by kernel_rfl)) (fun _ => by kernel_rfl) (fun x0_12 hx0_12 => ?_)
     let E6 : Env := ((20, .bool (decide (x0_12 = 9))) :: (19, .bool (decide (x0_12 = 9))) :: (18, .bool (decide (x0_12 = 9))) :: (17, .int .u8 x0_12) :: (16, .int .i64 y1_0) :: (15, .str a0) :: (14, .bool false) :: E4)
     refine oR 3 (p' := (atN 16 (ctl1 g17p2))) (eE := E6) (H' := (mkH [])) (by kernel_rfl) ?_
     refine oS 20 (b := decide (x0_12 = 9)) (by kernel_rfl) (fun hb => ?_) (fun hb => ?_)
     ·let E7 : Env := ((32, .bool true) :: (31, .bool true) :: (30, .tuple []) :: (29, .tuple []) :: (28, .tuple []) :: (27, .tuple []) :: (26, .bool true) :: (25, .bool true) :: (24, .tuple []) :: (23, .tuple []) :: (22, .tuple []) :: (21, .tuple []) :: (20, .bool true) :: E6)
      refine oR 13 (p' := g17p3) (eE := E7) (H' := (mkH [])) (by kernel_rfl) ?_
      refine oK [0, 1, 32] (eE := [(0, .str a0), (1, .int .i64 y1_0), (32, .bool true)]) (by kernel_rfl) ?_
      exact hj2 (true, y1_0)
     ·refine oR 2 (p' := (atN 18 (ctl1 g17p2))) (eE := ((22, .int .i64 y1_0) :: (21, .str a0) :: (20, .bool false) :: E6)) (H' := (mkH [])) (by kernel_rfl) ?_
      refine oH (fun (x0_18 : Int) => (.int .u8 x0_18, (mkH []))) (atN 19 (ctl1 g17p2)) (fun x0_18 => ((23, .int .u8 x0_18) :: (22, .int .i64 y1_0) :: (21, .str a0) :: (20, .bool false) :: E6)) (idxH (by kernel_rfl)) (fun _ => by kernel_rfl) (fun x0_18 hx0_18 => ?_)
      let E8 : Env := ((26, .bool (decide (x0_18 = 10))) :: (25, .bool (decide (x0_18 = 10))) :: (24, .bool (decide (x0_18 = 10))) :: (23, .int .u8 x0_18) :: (22, .int .i64 y1_0) :: (21, .str a0) :: (20, .bool false) :: E6)
      refine oR 3 (p' := (atN 22 (ctl1 g17p2))) (eE := E8) (H' := (mkH [])) (by kernel_rfl) ?_
      refine oS 26 (b := decide (x0_18 = 10)) (by kernel_rfl) (fun hb => ?_) (fun hb => ?_)
      ·let E9 : Env := ((32, .bool true) :: (31, .bool true) :: (30, .tuple []) :: (29, .tuple []) :: (28, .tuple []) :: (27, .tuple []) :: (26, .bool true) :: E8)
       refine oR 7 (p' := g17p3) (eE := E9) (H' := (mkH [])) (by kernel_rfl) ?_
       refine oK [0, 1, 32] (eE := [(0, .str a0), (1, .int .i64 y1_0), (32, .bool true)]) (by kernel_rfl) ?_
       exact hj2 (true, y1_0)
      ·refine oR 2 (p' := (atN 24 (ctl1 g17p2))) (eE := ((28, .int .i64 y1_0) :: (27, .str a0) :: (26, .bool false) :: E8)) (H' := (mkH [])) (by kernel_rfl) ?_
       refine oH (fun (x0_24 : Int) => (.int .u8 x0_24, (mkH []))) (atN 25 (ctl1 g17p2)) (fun x0_24 => ((29, .int .u8 x0_24) :: (28, .int .i64 y1_0) :: (27, .str a0) :: (26, .bool false) :: E8)) (idxH (by kernel_rfl)) (fun _ => by kernel_rfl) (fun x0_24 hx0_24 => ?_)
       let E10 : Env := ((32, .bool (decide (x0_24 = 13))) :: (31, .bool (decide (x0_24 = 13))) :: (30, .bool (decide (x0_24 = 13))) :: (29, .int .u8 x0_24) :: (28, .int .i64 y1_0) :: (27, .str a0) :: (26, .bool false) :: E8)
       refine oR 4 (p' := g17p3) (eE := E10) (H' := (mkH [])) (by kernel_rfl) ?_
       refine oK [0, 1, 32] (eE := [(0, .str a0), (1, .int .i64 y1_0), (32, .bool (decide (x0_24 = 13)))]) (by kernel_rfl) ?_
       exact hj2 (decide (x0_24 = 13), y1_0)
   ·let E11 : Env := ((32, .bool false) :: (31, .tuple []) :: (30, .tuple []) :: (29, .tuple []) :: (28, .tuple []) :: (27, .tuple []) :: (26, .tuple []) :: (25, .tuple []) :: (24, .tuple []) :: (23, .tuple []) :: (22, .tuple []) :: (21, .tuple []) :: (20, .tuple []) :: (19, .tuple []) :: (18, .tuple []) :: (17, .tuple []) :: (16, .tuple []) :: (15, .tuple []) :: (14, .tuple []) :: (13, .tuple []) :: (12, .tuple []) :: (11, .tuple []) :: (10, .tuple []) :: (9, .bool false) :: E1)
    refine oR 24 (p' := g17p3) (eE := E11) (H' := (mkH [])) (by kernel_rfl) ?_
    refine oK [0, 1, 32] (eE := [(0, .str a0), (1, .int .i64 y1_0), (32, .bool false)]) (by kernel_rfl) ?_
    exact hj2 (false, y1_0)
def g17 (k : Nat) (a0 : (List Nat)) (a1 : Int) : Option Int :=
 g17_l1 k a0 k a1
theorem g17_ok (k : Nat) (a0 : (List Nat)) (a1 : Int) (r : Int) (h : g17 k a0 a1 = some r) : PureOk Try.prog 17 [.str a0, .int .i64 a1] (.int .i64 r) := by
 refine pure_of X17 (fun _ => rfl) Try.func17 (by decide +kernel) (by kernel_rfl) (t := g17 k a0 a1) ?_ h
 unfold g17
 refine oE (eE := [(0, .str a0), (1, .int .i64 a1)]) (by kernel_rfl) ?_
 refine oR 7 (p' := g17p1) (eE := [(4, .int .i64 0), (0, .str a0), (1, .int .i64 a1)]) (H' := (mkH [])) (by kernel_rfl) ?_
 refine oK [0, 1] (eE := [(0, .str a0), (1, .int .i64 a1)]) (by kernel_rfl) ?_
 exact (g17_l1_ok k a0 k) a1
end
end Go.Proofs.Ytokcjgjgojlhbaa.Am
set_option maxRecDepth 100000
set_option linter.unusedVariables false
namespace Go.Proofs.Ytokcjgjgojlhbaa.Am
noncomputable section
open Go
def X21 : Fx (List Nat) := ⟨Try.prog, cx, Try.f21, fun r => .str r, 0, fun _ => H0, cxTi, cxOrd⟩
def g21p0 : Pt := nav [0] (bodyAt Try.f21)
def g21p1 : Pt := nav [0, 0, 0] g21p0
def g21p2 : Pt := nav [0, 0, 0, 0, 0] g21p1
def g21p3 : Pt := nav [0, 0, 0] g21p2
def g21p4 : Pt := nav [0, 0] g21p3
def g21p6 : Pt := nav [2, 0, 0] g21p4
def g21_l2 (k : Nat)  (a0 : (List Nat)) (n : Nat) : Int → Option (List Nat) :=
 Nat.rec (motive := fun _ => Int → Option (List Nat)) (fun _ => none) (fun _ ih => fun (y2_0 : Int) => jn (fun (z3 : Bool × Int) => if z3.1 then (ih (fW .i64 (z3.2 - 1))) else ((subL a0 none (some z3.2)).bind fun x1_2 => some x1_2)) (fun j3 => if (decide (0 < y2_0)) then ((nthS a0 (fW .i64 (y2_0 - 1))).bind fun x0_6 => if (decide (x0_6 = 32)) then (j3 (true, y2_0)) else ((nthS a0 (fW .i64 (y2_0 - 1))).bind fun x0_12 => if (decide (x0_12 = 9)) then (j3 (true, y2_0)) else ((nthS a0 (fW .i64 (y2_0 - 1))).bind fun x0_19 => j3 (decide (x0_19 = 13), y2_0)))) else (j3 (false, y2_0)))) n
theorem g21_l2_s (k : Nat)  (a0 : (List Nat)) (n : Nat) (y2_0 : Int) : g21_l2 k a0 (n + 1) y2_0 = (jn (fun (z3 : Bool × Int) => if z3.1 then ((g21_l2 k a0 n) (fW .i64 (z3.2 - 1))) else ((subL a0 none (some z3.2)).bind fun x1_2 => some x1_2)) (fun j3 => if (decide (0 < y2_0)) then ((nthS a0 (fW .i64 (y2_0 - 1))).bind fun x0_6 => if (decide (x0_6 = 32)) then (j3 (true, y2_0)) else ((nthS a0 (fW .i64 (y2_0 - 1))).bind fun x0_12 => if (decide (x0_12 = 9)) then (j3 (true, y2_0)) else ((nthS a0 (fW .i64 (y2_0 - 1))).bind fun x0_19 => j3 (decide (x0_19 = 13), y2_0)))) else (j3 (false, y2_0)))) := rfl
theorem g21_l2_ok (k : Nat)  (a0 : (List Nat))  : ∀ (n : Nat) (y2_0 : Int), Ok X21 g21p2 [(0, .str a0), (3, .int .i64 y2_0)] (mkH []) (g21_l2 k a0 n y2_0)
 | 0, _ => ok_none
 | n + 1, y2_0 => by
  have ih := g21_l2_ok k a0 n
  rw [g21_l2_s]
  refine ok_ent (p' := nav [0] g21p2) (by kernel_rfl) ?_
  let E2 : Env := [(8, .bool (decide (0 < y2_0))), (7, .bool (decide (0 < y2_0))), (6, .int .i64 y2_0), (0, .str a0), (3, .int .i64 y2_0)]
  refine oR 6 (p' := (atN 3 (ctl1 g21p3))) (eE := E2) (H' := (mkH [])) (by kernel_rfl) ?_
  refine oJ (f := fun (z3 : Bool × Int) => if z3.1 then ((g21_l2 k a0 n) (fW .i64 (z3.2 - 1))) else ((subL a0 none (some z3.2)).bind fun x1_2 => some x1_2)) g21p4 (fun (z3 : Bool × Int) => [(0, .str a0), (3, .int .i64 z3.2), (28, .bool z3.1)]) (fun (z3 : Bool × Int) => (mkH [])) (fun z3 => ?_) (fun j3 hj3 => ?_)
  ·refine oS 28 (b := z3.1) (by kernel_rfl) (fun hb => ?_) (fun hb => ?_)
   ·let E3 : Env := [(3, .int .i64 (fW .i64 (z3.2 - 1))), (30, .int .i64 (fW .i64 (z3.2 - 1))), (29, .int .i64 z3.2), (28, .bool true), (0, .str a0), (3, .int .i64 z3.2), (28, .bool z3.1)]
    refine oR 8 (p' := g21p2) (eE := E3) (H' := (mkH [])) (by kernel_rfl) ?_
    refine oK [0, 3] (eE := [(0, .str a0), (3, .int .i64 (fW .i64 (z3.2 - 1)))]) (by kernel_rfl) ?_
    exact ih (fW .i64 (z3.2 - 1))
   ·let E4 : Env := [(32, .int .i64 z3.2), (31, .str a0), (28, .bool false), (0, .str a0), (3, .int .i64 z3.2), (28, .bool z3.1)]
    refine oR 6 (p' := (atN 2 (ctl1 g21p6))) (eE := E4) (H' := (mkH [])) (by kernel_rfl) ?_
    refine oH (fun (x1_2 : (List Nat)) => (.str x1_2, (mkH []))) (atN 3 (ctl1 g21p6)) (fun x1_2 => ((33, .str x1_2) :: E4)) (subH none (some z3.2) (by kernel_rfl)) (fun _ => by kernel_rfl) (fun x1_2 hx1_2 => ?_)
    refine oR 3 (p' := .fin) (eE := ((2, .str x1_2) :: (33, .str x1_2) :: E4)) (H' := (mkH [])) (by kernel_rfl) ?_
    exact oT (r := x1_2) (xs := [.str x1_2]) (v := .str x1_2) (by kernel_rfl) (by kernel_rfl) (by kernel_rfl) (.pures (by kernel_rfl)) (by kernel_rfl)
  ·refine oS 8 (b := decide (0 < y2_0)) (by kernel_rfl) (fun hb => ?_) (fun hb => ?_)
   ·refine oR 3 (p' := (atN 6 (ctl1 g21p3))) (eE := ((11, .int .i64 (fW .i64 (y2_0 - 1))) :: (10, .int .i64 y2_0) :: (9, .str a0) :: (8, .bool true) :: E2)) (H' := (mkH [])) (by kernel_rfl) ?_
    refine oH (fun (x0_6 : Int) => (.int .u8 x0_6, (mkH []))) (atN 7 (ctl1 g21p3)) (fun x0_6 => ((12, .int .u8 x0_6) :: (11, .int .i64 (fW .i64 (y2_0 - 1))) :: (10, .int .i64 y2_0) :: (9, .str a0) :: (8, .bool true) :: E2)) (idxH (by kernel_rfl)) (fun _ => by kernel_rfl) (fun x0_6 hx0_6 => ?_)
    let E5 : Env := ((14, .bool (decide (x0_6 = 32))) :: (13, .bool (decide (x0_6 = 32))) :: (12, .int .u8 x0_6) :: (11, .int .i64 (fW .i64 (y2_0 - 1))) :: (10, .int .i64 y2_0) :: (9, .str a0) :: (8, .bool true) :: E2)
    refine oR 2 (p' := (atN 9 (ctl1 g21p3))) (eE := E5) (H' := (mkH [])) (by kernel_rfl) ?_
    refine oS 14 (b := decide (x0_6 = 32)) (by kernel_rfl) (fun hb => ?_) (fun hb => ?_)
    ·let E6 : Env := ((28, .bool true) :: (27, .bool true) :: (26, .tuple []) :: (25, .tuple []) :: (24, .tuple []) :: (23, .tuple []) :: (22, .tuple []) :: (21, .bool true) :: (20, .bool true) :: (19, .tuple []) :: (18, .tuple []) :: (17, .tuple []) :: (16, .tuple []) :: (15, .tuple []) :: (14, .bool true) :: E5)
     refine oR 15 (p' := g21p4) (eE := E6) (H' := (mkH [])) (by kernel_rfl) ?_
     refine oK [0, 3, 28] (eE := [(0, .str a0), (3, .int .i64 y2_0), (28, .bool true)]) (by kernel_rfl) ?_
     exact hj3 (true, y2_0)
    ·refine oR 3 (p' := (atN 12 (ctl1 g21p3))) (eE := ((17, .int .i64 (fW .i64 (y2_0 - 1))) :: (16, .int .i64 y2_0) :: (15, .str a0) :: (14, .bool false) :: E5)) (H' := (mkH [])) (by kernel_rfl) ?_
     refine oH (fun (x0_12 : Int) => (.int .u8 x0_12, (mkH []))) (atN 13 (ctl1 g21p3)) (fun x0_12 => ((18, .int .u8 x0_12) :: (17, .int .i64 (fW .i64 (y2_0 - 1))) :: (16, .int .i64 y2_0) :: (15, .str a0) :: (14, .bool false) :: E5)) (idxH (by kernel_rfl)) (fun _ => by kernel_rfl) (fun x0_12 hx0_12 => ?_)
     let E7 : Env := ((21, .bool (decide (x0_12 = 9))) :: (20, .bool (decide (x0_12 = 9))) :: (19, .bool (decide (x0_12 = 9))) :: (18, .int .u8 x0_12) :: (17, .int .i64 (fW .i64 (y2_0 - 1))) :: (16, .int .i64 y2_0) :: (15, .str a0) :: (14, .bool false) :: E5)
     refine oR 3 (p' := (atN 16 (ctl1 g21p3))) (eE := E7) (H' := (mkH [])) (by kernel_rfl) ?_
     refine oS 21 (b := decide (x0_12 = 9)) (by kernel_rfl) (fun hb => ?_) (fun hb => ?_)
     ·let E8 : Env := ((28, .bool true) :: (27, .bool true) :: (26, .tuple []) :: (25, .tuple []) :: (24, .tuple []) :: (23, .tuple []) :: (22, .tuple []) :: (21, .bool true) :: E7)
      refine oR 8 (p' := g21p4) (eE := E8) (H' := (mkH [])) (by kernel_rfl) ?_
      refine oK [0, 3, 28] (eE := [(0, .str a0), (3, .int .i64 y2_0), (28, .bool true)]) (by kernel_rfl) ?_
      exact hj3 (true, y2_0)
     ·refine oR 3 (p' := (atN 19 (ctl1 g21p3))) (eE := ((24, .int .i64 (fW .i64 (y2_0 - 1))) :: (23, .int .i64 y2_0) :: (22, .str a0) :: (21, .bool false) :: E7)) (H' := (mkH [])) (by kernel_rfl) ?_
      refine oH (fun (x0_19 : Int) => (.int .u8 x0_19, (mkH []))) (atN 20 (ctl1 g21p3)) (fun x0_19 => ((25, .int .u8 x0_19) :: (24, .int .i64 (fW .i64 (y2_0 - 1))) :: (23, .int .i64 y2_0) :: (22, .str a0) :: (21, .bool false) :: E7)) (idxH (by kernel_rfl)) (fun _ => by kernel_rfl) (fun x0_19 hx0_19 => ?_)
      let E9 : Env := ((28, .bool (decide (x0_19 = 13))) :: (27, .bool (decide (x0_19 = 13))) :: (26, .bool (decide (x0_19 = 13))) :: (25, .int .u8 x0_19) :: (24, .int .i64 (fW .i64 (y2_0 - 1))) :: (23, .int .i64 y2_0) :: (22, .str a0) :: (21, .bool false) :: E7)
      refine oR 4 (p' := g21p4) (eE := E9) (H' := (mkH [])) (by kernel_rfl) ?_
      refine oK [0, 3, 28] (eE := [(0, .str a0), (3, .int .i64 y2_0), (28, .bool (decide (x0_19 = 13)))]) (by kernel_rfl) ?_
      exact hj3 (decide (x0_19 = 13), y2_0)
   ·let E10 : Env := ((28, .bool false) :: (27, .tuple []) :: (26, .tuple []) :: (25, .tuple []) :: (24, .tuple []) :: (23, .tuple []) :: (22, .tuple []) :: (21, .tuple []) :: (20, .tuple []) :: (19, .tuple []) :: (18, .tuple []) :: (17, .tuple []) :: (16, .tuple []) :: (15, .tuple []) :: (14, .tuple []) :: (13, .tuple []) :: (12, .tuple []) :: (11, .tuple []) :: (10, .tuple []) :: (9, .tuple []) :: (8, .bool false) :: E2)
    refine oR 21 (p' := g21p4) (eE := E10) (H' := (mkH [])) (by kernel_rfl) ?_
    refine oK [0, 3, 28] (eE := [(0, .str a0), (3, .int .i64 y2_0), (28, .bool false)]) (by kernel_rfl) ?_
    exact hj3 (false, y2_0)
def g21 (k : Nat) (a0 : (List Nat)) : Option (List Nat) :=
 g21_l2 k a0 k (a0.length : Int)
theorem g21_ok (k : Nat) (a0 : (List Nat)) (r : (List Nat)) (h : g21 k a0 = some r) : PureOk Try.prog 21 [.str a0] (.str r) := by
 refine pure_of X21 (fun _ => rfl) Try.func21 (by decide +kernel) (by kernel_rfl) (t := g21 k a0) ?_ h
 unfold g21
 refine oE (eE := [(0, .str a0)]) (by kernel_rfl) ?_
 let E1 : Env := [(3, .int .i64 (a0.length : Int)), (5, .int .i64 (a0.length : Int)), (4, .str a0), (2, .str []), (0, .str a0)]
 refine oR 13 (p' := g21p2) (eE := E1) (H' := (mkH [])) (by kernel_rfl) ?_
 refine oK [0, 3] (eE := [(0, .str a0), (3, .int .i64 (a0.length : Int))]) (by kernel_rfl) ?_
 exact (g21_l2_ok k a0 k) (a0.length : Int)
end
end Go.Proofs.Ytokcjgjgojlhbaa.Am
set_option maxRecDepth 100000
set_option linter.unusedVariables false
namespace Go.Proofs.Ytokcjgjgojlhbaa.Am
noncomputable section
open Go
def X23 : Fx (S28 × Int) := ⟨Try.prog, cx, Try.f23, fun r => .tuple [.agg [.int .i64 r.1.f0, .str r.1.f1, .int .i64 r.1.f2], .int .i64 r.2], 0, fun _ => H0, cxTi, cxOrd⟩
def g23p0 : Pt := nav [0] (bodyAt Try.f23)
def g23p1 : Pt := nav [0, 0, 0] g23p0
def g23p2 : Pt := nav [0, 0, 0, 0] g23p1
def g23p3 : Pt := nav [0, 0] g23p2
def g23p4 : Pt := nav [1] g23p3
def g23p5 : Pt := nav [2, 0, 0] g23p3
def g23p6 : Pt := nav [0, 0, 0, 0] g23p5
def g23p7 : Pt := nav [0, 0] g23p6
def g23p9 : Pt := nav [2, 0, 0, 0] g23p7
def g23p11 : Pt := nav [0, 0] g23p9
def g23p12 : Pt := nav [1, 0] g23p11
def g23p13 : Pt := nav [2, 0, 0] g23p11
def g23p14 : Pt := nav [0, 0, 0, 0] g23p12
def g23p15 : Pt := nav [0, 0, 0, 0] g23p14
def g23p16 : Pt := nav [0, 0, 0] g23p15
def g23p17 : Pt := nav [0, 0] g23p16
def g23p18 : Pt := nav [1, 0, 0, 0] g23p17
def g23p19 : Pt := nav [2, 0, 0] g23p17
def g23p20 : Pt := nav [0, 0] g23p18
def g23p21 : Pt := nav [0, 0] g23p19
def g23_l9 (k : Nat) (c11 : Unit → Option (S28 × Int)) (a0 : (List Nat)) (a1 : Int) (z6 : Int × Int) (n : Nat) : Bool → Int → Option (S28 × Int) :=
 Nat.rec (motive := fun _ => Bool → Int → Option (S28 × Int)) (fun _ _ => none) (fun _ ih => fun (y9_0 : Bool) (y9_1 : Int) => if (decide (y9_1 < fW .i64 (a1 + z6.2))) then (jn (fun (z10 : Bool × Int) => ih z10.1 (fW .i64 (z10.2 + 1))) (fun j10 => if y9_0 then (j10 (true, y9_1)) else ((nthS a0 y9_1).bind fun x5_4 => j10 (decide (x5_4 = 35), y9_1)))) else (if (!y9_0) then (some ((⟨(0 : Int), ([] : List Nat), (0 : Int)⟩ : S28), (4 : Int))) else (c11 ()))) n
theorem g23_l9_s (k : Nat) (c11 : Unit → Option (S28 × Int)) (a0 : (List Nat)) (a1 : Int) (z6 : Int × Int) (n : Nat) (y9_0 : Bool) (y9_1 : Int) : g23_l9 k c11 a0 a1 z6 (n + 1) y9_0 y9_1 = (if (decide (y9_1 < fW .i64 (a1 + z6.2))) then (jn (fun (z10 : Bool × Int) => (g23_l9 k c11 a0 a1 z6 n) z10.1 (fW .i64 (z10.2 + 1))) (fun j10 => if y9_0 then (j10 (true, y9_1)) else ((nthS a0 y9_1).bind fun x5_4 => j10 (decide (x5_4 = 35), y9_1)))) else (if (!y9_0) then (some ((⟨(0 : Int), ([] : List Nat), (0 : Int)⟩ : S28), (4 : Int))) else (c11 ()))) := rfl
theorem g23_l9_ok (k : Nat) (c11 : Unit → Option (S28 × Int)) (a0 : (List Nat)) (a1 : Int) (z6 : Int × Int) (hc11 : ∀ z11 : Unit, Ok X23 g23p13 ((fun (z11 : Unit) => [(0, .str a0), (1, .int .i64 a1), (4, .ptr 0 3 0), (6, .int .i64 z6.1), (8, .int .i64 (fW .i64 (a1 + z6.2)))]) z11) ((fun (z11 : Unit) => (mkH [⟨[.int .i64 0, .str [], .int .i64 0], 0, false⟩])) z11) (c11 z11)) : ∀ (n : Nat) (y9_0 : Bool) (y9_1 : Int), Ok X23 g23p15 [(0, .str a0), (1, .int .i64 a1), (4, .ptr 0 3 0), (6, .int .i64 z6.1), (8, .int .i64 (fW .i64 (a1 + z6.2))), (9, .bool y9_0), (10, .int .i64 y9_1)] (mkH [⟨[.int .i64 0, .str [], .int .i64 0], 0, false⟩]) (g23_l9 k c11 a0 a1 z6 n y9_0 y9_1)
 | 0, _, _ => ok_none
 | n + 1, y9_0, y9_1 => by
  have ih := g23_l9_ok k c11 a0 a1 z6 hc11 n
  rw [g23_l9_s]
  refine ok_ent (p' := nav [0] g23p15) (by kernel_rfl) ?_
  let E8 : Env := [(54, .bool (decide (y9_1 < fW .i64 (a1 + z6.2)))), (53, .int .i64 (fW .i64 (a1 + z6.2))), (52, .int .i64 y9_1), (0, .str a0), (1, .int .i64 a1), (4, .ptr 0 3 0), (6, .int .i64 z6.1), (8, .int .i64 (fW .i64 (a1 + z6.2))), (9, .bool y9_0), (10, .int .i64 y9_1)]
  refine oR 7 (p' := g23p17) (eE := E8) (H' := (mkH [⟨[.int .i64 0, .str [], .int .i64 0], 0, false⟩])) (by kernel_rfl) ?_
  refine oS 54 (b := decide (y9_1 < fW .i64 (a1 + z6.2))) (by kernel_rfl) (fun hb => ?_) (fun hb => ?_)
  ·refine oR 7 (p' := (atN 2 (ctl1 g23p18))) (eE := ((58, .bool y9_0) :: (57, .bool y9_0) :: (54, .bool true) :: E8)) (H' := (mkH [⟨[.int .i64 0, .str [], .int .i64 0], 0, false⟩])) (by kernel_rfl) ?_
   refine oJ (f := fun (z10 : Bool × Int) => (g23_l9 k c11 a0 a1 z6 n) z10.1 (fW .i64 (z10.2 + 1))) g23p20 (fun (z10 : Bool × Int) => [(0, .str a0), (1, .int .i64 a1), (4, .ptr 0 3 0), (6, .int .i64 z6.1), (8, .int .i64 (fW .i64 (a1 + z6.2))), (9, .bool z10.1), (10, .int .i64 z10.2)]) (fun (z10 : Bool × Int) => (mkH [⟨[.int .i64 0, .str [], .int .i64 0], 0, false⟩])) (fun z10 => ?_) (fun j10 hj10 => ?_)
   ·let E9 : Env := [(10, .int .i64 (fW .i64 (z10.2 + 1))), (56, .int .i64 (fW .i64 (z10.2 + 1))), (55, .int .i64 z10.2), (0, .str a0), (1, .int .i64 a1), (4, .ptr 0 3 0), (6, .int .i64 z6.1), (8, .int .i64 (fW .i64 (a1 + z6.2))), (9, .bool z10.1), (10, .int .i64 z10.2)]
    refine oR 5 (p' := g23p15) (eE := E9) (H' := (mkH [⟨[.int .i64 0, .str [], .int .i64 0], 0, false⟩])) (by kernel_rfl) ?_
    refine oK [0, 1, 4, 6, 8, 9, 10] (eE := [(0, .str a0), (1, .int .i64 a1), (4, .ptr 0 3 0), (6, .int .i64 z6.1), (8, .int .i64 (fW .i64 (a1 + z6.2))), (9, .bool z10.1), (10, .int .i64 (fW .i64 (z10.2 + 1)))]) (by kernel_rfl) ?_
    exact ih z10.1 (fW .i64 (z10.2 + 1))
   ·refine oS 58 (b := y9_0) (by kernel_rfl) (fun hb => ?_) (fun hb => ?_)
    ·let E10 : Env := ((9, .bool true) :: (63, .bool true) :: (62, .tuple []) :: (61, .tuple []) :: (60, .tuple []) :: (59, .tuple []) :: (58, .bool true) :: (58, .bool y9_0) :: (57, .bool y9_0) :: (54, .bool true) :: E8)
     refine oR 7 (p' := g23p20) (eE := E10) (H' := (mkH [⟨[.int .i64 0, .str [], .int .i64 0], 0, false⟩])) (by kernel_rfl) ?_
     refine oK [0, 1, 4, 6, 8, 9, 10] (eE := [(0, .str a0), (1, .int .i64 a1), (4, .ptr 0 3 0), (6, .int .i64 z6.1), (8, .int .i64 (fW .i64 (a1 + z6.2))), (9, .bool true), (10, .int .i64 y9_1)]) (by kernel_rfl) ?_
     exact hj10 (true, y9_1)
    ·let E11 : Env := ((60, .int .i64 y9_1) :: (59, .str a0) :: (58, .bool false) :: (58, .bool y9_0) :: (57, .bool y9_0) :: (54, .bool true) :: E8)
     refine oR 2 (p' := (atN 4 (ctl1 g23p18))) (eE := E11) (H' := (mkH [⟨[.int .i64 0, .str [], .int .i64 0], 0, false⟩])) (by kernel_rfl) ?_
     refine oH (fun (x5_4 : Int) => (.int .u8 x5_4, (mkH [⟨[.int .i64 0, .str [], .int .i64 0], 0, false⟩]))) (atN 5 (ctl1 g23p18)) (fun x5_4 => ((61, .int .u8 x5_4) :: E11)) (idxH (by kernel_rfl)) (fun _ => by kernel_rfl) (fun x5_4 hx5_4 => ?_)
     refine oR 4 (p' := g23p20) (eE := ((9, .bool (decide (x5_4 = 35))) :: (63, .bool (decide (x5_4 = 35))) :: (62, .bool (decide (x5_4 = 35))) :: (61, .int .u8 x5_4) :: E11)) (H' := (mkH [⟨[.int .i64 0, .str [], .int .i64 0], 0, false⟩])) (by kernel_rfl) ?_
     refine oK [0, 1, 4, 6, 8, 9, 10] (eE := [(0, .str a0), (1, .int .i64 a1), (4, .ptr 0 3 0), (6, .int .i64 z6.1), (8, .int .i64 (fW .i64 (a1 + z6.2))), (9, .bool (decide (x5_4 = 35))), (10, .int .i64 y9_1)]) (by kernel_rfl) ?_
     exact hj10 (decide (x5_4 = 35), y9_1)
  ·refine oR 7 (p' := g23p21) (eE := ((65, .bool (!y9_0)) :: (64, .bool y9_0) :: (54, .bool false) :: E8)) (H' := (mkH [⟨[.int .i64 0, .str [], .int .i64 0], 0, false⟩])) (by kernel_rfl) ?_
   refine oK [0, 1, 4, 6, 8, 65] (eE := [(0, .str a0), (1, .int .i64 a1), (4, .ptr 0 3 0), (6, .int .i64 z6.1), (8, .int .i64 (fW .i64 (a1 + z6.2))), (65, .bool (!y9_0))]) (by kernel_rfl) ?_
   refine oS 65 (b := !y9_0) (by kernel_rfl) (fun hb => ?_) (fun hb => ?_)
   ·let E12 : Env := [(5, .int .i64 4), (66, .agg [.int .i64 0, .str [], .int .i64 0]), (65, .bool true), (0, .str a0), (1, .int .i64 a1), (4, .ptr 0 3 0), (6, .int .i64 z6.1), (8, .int .i64 (fW .i64 (a1 + z6.2))), (65, .bool (!y9_0))]
    refine oR 8 (p' := .fin) (eE := E12) (H' := (mkH [⟨[.int .i64 0, .str [], .int .i64 0], 3, false⟩])) (by kernel_rfl) ?_
    exact oT (r := ((⟨(0 : Int), ([] : List Nat), (0 : Int)⟩ : S28), (4 : Int))) (xs := [.agg [.int .i64 0, .str [], .int .i64 0], .int .i64 4]) (v := .tuple [.agg [.int .i64 0, .str [], .int .i64 0], .int .i64 4]) (by kernel_rfl) (by kernel_rfl) (by kernel_rfl) (.pures (by kernel_rfl)) (by kernel_rfl)
   ·let E13 : Env := [(65, .bool false), (0, .str a0), (1, .int .i64 a1), (4, .ptr 0 3 0), (6, .int .i64 z6.1), (8, .int .i64 (fW .i64 (a1 + z6.2))), (65, .bool (!y9_0))]
    refine oR 3 (p' := g23p13) (eE := E13) (H' := (mkH [⟨[.int .i64 0, .str [], .int .i64 0], 0, false⟩])) (by kernel_rfl) ?_
    refine oK [0, 1, 4, 6, 8] (eE := [(0, .str a0), (1, .int .i64 a1), (4, .ptr 0 3 0), (6, .int .i64 z6.1), (8, .int .i64 (fW .i64 (a1 + z6.2)))]) (by kernel_rfl) ?_
    exact hc11 ()
def g23 (k : Nat) (a0 : (List Nat)) (a1 : Int) : Option (S28 × Int) :=
 (g43 k a0 a1).bind fun x0_2 => jn (fun (z6 : Int × Int) => jn (fun (z7 : Bool) => if z7 then (some ((⟨(0 : Int), ([] : List Nat), (0 : Int)⟩ : S28), (4 : Int))) else (jn (fun (z8 : Bool) => jn (fun (z11 : Unit) => (subL a0 (some a1) (some (fW .i64 (a1 + z6.2)))).bind fun x4_4 => some ((⟨z6.1, x4_4, a1⟩ : S28), (0 : Int))) (fun j11 => if z8 then (g23_l9 k j11 a0 a1 z6 k false a1) else (j11 ()))) (fun j8 => if (decide (z6.1 = 3)) then (if (decide (fW .i64 (a1 + z6.2) < (a0.length : Int))) then ((nthS a0 (fW .i64 (a1 + z6.2))).bind fun x3_11 => j8 (decide (x3_11 = 35))) else (j8 false)) else (j8 false)))) (fun j7 => if (decide (z6.2 = 0)) then (j7 true) else (if (decide (fW .i64 (a1 + z6.2) < (a0.length : Int))) then ((nthS a0 (fW .i64 (a1 + z6.2))).bind fun x2_10 => (g45 k x2_10).bind fun x2_11 => j7 x2_11) else (j7 false)))) (fun j6 => if (decide (x0_2 = 0)) then ((g44 k a0 a1).bind fun x1_2 => j6 (3, x1_2)) else (j6 (4, x0_2)))
theorem g23_ok (k : Nat) (a0 : (List Nat)) (a1 : Int) (r : (S28 × Int)) (h : g23 k a0 a1 = some r) : PureOk Try.prog 23 [.str a0, .int .i64 a1] (.tuple [.agg [.int .i64 r.1.f0, .str r.1.f1, .int .i64 r.1.f2], .int .i64 r.2]) := by
 refine pure_of X23 (fun _ => rfl) Try.func23 (by decide +kernel) (by kernel_rfl) (t := g23 k a0 a1) ?_ h
 unfold g23
 refine oE (eE := [(0, .str a0), (1, .int .i64 a1)]) (by kernel_rfl) ?_
 let E1 : Env := [(12, .int .i64 a1), (11, .str a0), (5, .int .i64 0), (4, .ptr 0 3 0), (0, .str a0), (1, .int .i64 a1)]
 refine oR 9 (p' := (atN 2 (ctl1 g23p1))) (eE := E1) (H' := (mkH [⟨[.int .i64 0, .str [], .int .i64 0], 0, false⟩])) (by kernel_rfl) ?_
 refine oC (fun (x0_2 : Int) => .int .i64 x0_2) (atN 3 (ctl1 g23p1)) (fun x0_2 => ((13, .int .i64 x0_2) :: E1)) (fi := 43) (args := [.str a0, .int .i64 a1]) (by kernel_rfl) (by kernel_rfl) (fun _ => by kernel_rfl) (fun r h => g43_ok k a0 a1 r h) (fun _ => by kernel_rfl) (fun x0_2 hx0_2 => ?_)
 let E2 : Env := ((15, .bool (decide (x0_2 = 0))) :: (14, .int .i64 x0_2) :: (7, .int .i64 x0_2) :: (6, .int .i64 4) :: (13, .int .i64 x0_2) :: E1)
 refine oR 9 (p' := g23p3) (eE := E2) (H' := (mkH [⟨[.int .i64 0, .str [], .int .i64 0], 0, false⟩])) (by kernel_rfl) ?_
 refine oJ (f := fun (z6 : Int × Int) => jn (fun (z7 : Bool) => if z7 then (some ((⟨(0 : Int), ([] : List Nat), (0 : Int)⟩ : S28), (4 : Int))) else (jn (fun (z8 : Bool) => jn (fun (z11 : Unit) => (subL a0 (some a1) (some (fW .i64 (a1 + z6.2)))).bind fun x4_4 => some ((⟨z6.1, x4_4, a1⟩ : S28), (0 : Int))) (fun j11 => if z8 then (g23_l9 k j11 a0 a1 z6 k false a1) else (j11 ()))) (fun j8 => if (decide (z6.1 = 3)) then (if (decide (fW .i64 (a1 + z6.2) < (a0.length : Int))) then ((nthS a0 (fW .i64 (a1 + z6.2))).bind fun x3_11 => j8 (decide (x3_11 = 35))) else (j8 false)) else (j8 false)))) (fun j7 => if (decide (z6.2 = 0)) then (j7 true) else (if (decide (fW .i64 (a1 + z6.2) < (a0.length : Int))) then ((nthS a0 (fW .i64 (a1 + z6.2))).bind fun x2_10 => (g45 k x2_10).bind fun x2_11 => j7 x2_11) else (j7 false)))) g23p5 (fun (z6 : Int × Int) => [(0, .str a0), (1, .int .i64 a1), (4, .ptr 0 3 0), (6, .int .i64 z6.1), (7, .int .i64 z6.2)]) (fun (z6 : Int × Int) => (mkH [⟨[.int .i64 0, .str [], .int .i64 0], 0, false⟩])) (fun z6 => ?_) (fun j6 hj6 => ?_)
 ·let E3 : Env := [(24, .bool (decide (z6.2 = 0))), (23, .bool (decide (z6.2 = 0))), (22, .int .i64 z6.2), (8, .int .i64 (fW .i64 (a1 + z6.2))), (21, .int .i64 (fW .i64 (a1 + z6.2))), (20, .int .i64 z6.2), (19, .int .i64 a1), (0, .str a0), (1, .int .i64 a1), (4, .ptr 0 3 0), (6, .int .i64 z6.1), (7, .int .i64 z6.2)]
  refine oR 12 (p' := (atN 3 (ctl1 g23p6))) (eE := E3) (H' := (mkH [⟨[.int .i64 0, .str [], .int .i64 0], 0, false⟩])) (by kernel_rfl) ?_
  refine oJ (f := fun (z7 : Bool) => if z7 then (some ((⟨(0 : Int), ([] : List Nat), (0 : Int)⟩ : S28), (4 : Int))) else (jn (fun (z8 : Bool) => jn (fun (z11 : Unit) => (subL a0 (some a1) (some (fW .i64 (a1 + z6.2)))).bind fun x4_4 => some ((⟨z6.1, x4_4, a1⟩ : S28), (0 : Int))) (fun j11 => if z8 then (g23_l9 k j11 a0 a1 z6 k false a1) else (j11 ()))) (fun j8 => if (decide (z6.1 = 3)) then (if (decide (fW .i64 (a1 + z6.2) < (a0.length : Int))) then ((nthS a0 (fW .i64 (a1 + z6.2))).bind fun x3_11 => j8 (decide (x3_11 = 35))) else (j8 false)) else (j8 false)))) g23p7 (fun (z7 : Bool) => [(0, .str a0), (1, .int .i64 a1), (4, .ptr 0 3 0), (6, .int .i64 z6.1), (8, .int .i64 (fW .i64 (a1 + z6.2))), (35, .bool z7)]) (fun (z7 : Bool) => (mkH [⟨[.int .i64 0, .str [], .int .i64 0], 0, false⟩])) (fun z7 => ?_) (fun j7 hj7 => ?_)
  ·refine oS 35 (b := z7) (by kernel_rfl) (fun hb => ?_) (fun hb => ?_)
   ·let E4 : Env := [(5, .int .i64 4), (36, .agg [.int .i64 0, .str [], .int .i64 0]), (35, .bool true), (0, .str a0), (1, .int .i64 a1), (4, .ptr 0 3 0), (6, .int .i64 z6.1), (8, .int .i64 (fW .i64 (a1 + z6.2))), (35, .bool z7)]
    refine oR 8 (p' := .fin) (eE := E4) (H' := (mkH [⟨[.int .i64 0, .str [], .int .i64 0], 3, false⟩])) (by kernel_rfl) ?_
    exact oT (r := ((⟨(0 : Int), ([] : List Nat), (0 : Int)⟩ : S28), (4 : Int))) (xs := [.agg [.int .i64 0, .str [], .int .i64 0], .int .i64 4]) (v := .tuple [.agg [.int .i64 0, .str [], .int .i64 0], .int .i64 4]) (by kernel_rfl) (by kernel_rfl) (by kernel_rfl) (.pures (by kernel_rfl)) (by kernel_rfl)
   ·let E5 : Env := [(39, .bool (decide (z6.1 = 3))), (38, .bool (decide (z6.1 = 3))), (37, .int .i64 z6.1), (35, .bool false), (0, .str a0), (1, .int .i64 a1), (4, .ptr 0 3 0), (6, .int .i64 z6.1), (8, .int .i64 (fW .i64 (a1 + z6.2))), (35, .bool z7)]
    refine oR 8 (p' := (atN 3 (ctl1 g23p9))) (eE := E5) (H' := (mkH [⟨[.int .i64 0, .str [], .int .i64 0], 0, false⟩])) (by kernel_rfl) ?_
    refine oJ (f := fun (z8 : Bool) => jn (fun (z11 : Unit) => (subL a0 (some a1) (some (fW .i64 (a1 + z6.2)))).bind fun x4_4 => some ((⟨z6.1, x4_4, a1⟩ : S28), (0 : Int))) (fun j11 => if z8 then (g23_l9 k j11 a0 a1 z6 k false a1) else (j11 ()))) g23p11 (fun (z8 : Bool) => [(0, .str a0), (1, .int .i64 a1), (4, .ptr 0 3 0), (6, .int .i64 z6.1), (8, .int .i64 (fW .i64 (a1 + z6.2))), (50, .bool z8)]) (fun (z8 : Bool) => (mkH [⟨[.int .i64 0, .str [], .int .i64 0], 0, false⟩])) (fun z8 => ?_) (fun j8 hj8 => ?_)
    ·refine oJ (f := fun (z11 : Unit) => (subL a0 (some a1) (some (fW .i64 (a1 + z6.2)))).bind fun x4_4 => some ((⟨z6.1, x4_4, a1⟩ : S28), (0 : Int))) g23p13 (fun (z11 : Unit) => [(0, .str a0), (1, .int .i64 a1), (4, .ptr 0 3 0), (6, .int .i64 z6.1), (8, .int .i64 (fW .i64 (a1 + z6.2)))]) (fun (z11 : Unit) => (mkH [⟨[.int .i64 0, .str [], .int .i64 0], 0, false⟩])) (fun z11 => ?_) (fun j11 hj11 => ?_)
     ·let E6 : Env := [(70, .int .i64 (fW .i64 (a1 + z6.2))), (69, .int .i64 a1), (68, .str a0), (67, .int .i64 z6.1), (0, .str a0), (1, .int .i64 a1), (4, .ptr 0 3 0), (6, .int .i64 z6.1), (8, .int .i64 (fW .i64 (a1 + z6.2)))]
      refine oR 5 (p' := (atN 4 (ctl1 g23p13))) (eE := E6) (H' := (mkH [⟨[.int .i64 0, .str [], .int .i64 0], 0, false⟩])) (by kernel_rfl) ?_
      refine oH (fun (x4_4 : (List Nat)) => (.str x4_4, (mkH [⟨[.int .i64 0, .str [], .int .i64 0], 0, false⟩]))) (atN 5 (ctl1 g23p13)) (fun x4_4 => ((71, .str x4_4) :: E6)) (subH (some a1) (some (fW .i64 (a1 + z6.2))) (by kernel_rfl)) (fun _ => by kernel_rfl) (fun x4_4 hx4_4 => ?_)
      refine oR 6 (p' := .fin) (eE := ((5, .int .i64 0) :: (73, .agg [.int .i64 z6.1, .str x4_4, .int .i64 a1]) :: (72, .int .i64 a1) :: (71, .str x4_4) :: E6)) (H' := (mkH [⟨[.int .i64 z6.1, .str x4_4, .int .i64 a1], 3, false⟩])) (by kernel_rfl) ?_
      exact oT (r := ((⟨z6.1, x4_4, a1⟩ : S28), (0 : Int))) (xs := [.agg [.int .i64 z6.1, .str x4_4, .int .i64 a1], .int .i64 0]) (v := .tuple [.agg [.int .i64 z6.1, .str x4_4, .int .i64 a1], .int .i64 0]) (by kernel_rfl) (by kernel_rfl) (by kernel_rfl) (.pures (by kernel_rfl)) (by kernel_rfl)
     ·refine oS 50 (b := z8) (by kernel_rfl) (fun hb => ?_) (fun hb => ?_)
      ·let E7 : Env := [(10, .int .i64 a1), (51, .int .i64 a1), (9, .bool false), (50, .bool true), (0, .str a0), (1, .int .i64 a1), (4, .ptr 0 3 0), (6, .int .i64 z6.1), (8, .int .i64 (fW .i64 (a1 + z6.2))), (50, .bool z8)]
       refine oR 13 (p' := g23p15) (eE := E7) (H' := (mkH [⟨[.int .i64 0, .str [], .int .i64 0], 0, false⟩])) (by kernel_rfl) ?_
       refine oK [0, 1, 4, 6, 8, 9, 10] (eE := [(0, .str a0), (1, .int .i64 a1), (4, .ptr 0 3 0), (6, .int .i64 z6.1), (8, .int .i64 (fW .i64 (a1 + z6.2))), (9, .bool false), (10, .int .i64 a1)]) (by kernel_rfl) ?_
       exact (g23_l9_ok k j11 a0 a1 z6 hj11 k) false a1
      ·let E14 : Env := [(50, .bool false), (0, .str a0), (1, .int .i64 a1), (4, .ptr 0 3 0), (6, .int .i64 z6.1), (8, .int .i64 (fW .i64 (a1 + z6.2))), (50, .bool z8)]
       refine oR 3 (p' := g23p13) (eE := E14) (H' := (mkH [⟨[.int .i64 0, .str [], .int .i64 0], 0, false⟩])) (by kernel_rfl) ?_
       refine oK [0, 1, 4, 6, 8] (eE := [(0, .str a0), (1, .int .i64 a1), (4, .ptr 0 3 0), (6, .int .i64 z6.1), (8, .int .i64 (fW .i64 (a1 + z6.2)))]) (by kernel_rfl) ?_
       exact hj11 ()
    ·refine oS 39 (b := decide (z6.1 = 3)) (by kernel_rfl) (fun hb => ?_) (fun hb => ?_)
     ·let E15 : Env := ((45, .bool (decide (fW .i64 (a1 + z6.2) < (a0.length : Int)))) :: (44, .bool (decide (fW .i64 (a1 + z6.2) < (a0.length : Int)))) :: (43, .bool (decide (fW .i64 (a1 + z6.2) < (a0.length : Int)))) :: (42, .int .i64 (a0.length : Int)) :: (41, .str a0) :: (40, .int .i64 (fW .i64 (a1 + z6.2))) :: (39, .bool true) :: E5)
      refine oR 6 (p' := (atN 9 (ctl1 g23p9))) (eE := E15) (H' := (mkH [⟨[.int .i64 0, .str [], .int .i64 0], 0, false⟩])) (by kernel_rfl) ?_
      refine oS 45 (b := decide (fW .i64 (a1 + z6.2) < (a0.length : Int))) (by kernel_rfl) (fun hb => ?_) (fun hb => ?_)
      ·refine oR 2 (p' := (atN 11 (ctl1 g23p9))) (eE := ((47, .int .i64 (fW .i64 (a1 + z6.2))) :: (46, .str a0) :: (45, .bool true) :: E15)) (H' := (mkH [⟨[.int .i64 0, .str [], .int .i64 0], 0, false⟩])) (by kernel_rfl) ?_
       refine oH (fun (x3_11 : Int) => (.int .u8 x3_11, (mkH [⟨[.int .i64 0, .str [], .int .i64 0], 0, false⟩]))) (atN 12 (ctl1 g23p9)) (fun x3_11 => ((48, .int .u8 x3_11) :: (47, .int .i64 (fW .i64 (a1 + z6.2))) :: (46, .str a0) :: (45, .bool true) :: E15)) (idxH (by kernel_rfl)) (fun _ => by kernel_rfl) (fun x3_11 hx3_11 => ?_)
       let E16 : Env := ((50, .bool (decide (x3_11 = 35))) :: (49, .bool (decide (x3_11 = 35))) :: (48, .int .u8 x3_11) :: (47, .int .i64 (fW .i64 (a1 + z6.2))) :: (46, .str a0) :: (45, .bool true) :: E15)
       refine oR 3 (p' := g23p11) (eE := E16) (H' := (mkH [⟨[.int .i64 0, .str [], .int .i64 0], 0, false⟩])) (by kernel_rfl) ?_
       refine oK [0, 1, 4, 6, 8, 50] (eE := [(0, .str a0), (1, .int .i64 a1), (4, .ptr 0 3 0), (6, .int .i64 z6.1), (8, .int .i64 (fW .i64 (a1 + z6.2))), (50, .bool (decide (x3_11 = 35)))]) (by kernel_rfl) ?_
       exact hj8 (decide (x3_11 = 35))
      ·let E17 : Env := ((50, .bool false) :: (49, .tuple []) :: (48, .tuple []) :: (47, .tuple []) :: (46, .tuple []) :: (45, .bool false) :: E15)
       refine oR 6 (p' := g23p11) (eE := E17) (H' := (mkH [⟨[.int .i64 0, .str [], .int .i64 0], 0, false⟩])) (by kernel_rfl) ?_
       refine oK [0, 1, 4, 6, 8, 50] (eE := [(0, .str a0), (1, .int .i64 a1), (4, .ptr 0 3 0), (6, .int .i64 z6.1), (8, .int .i64 (fW .i64 (a1 + z6.2))), (50, .bool false)]) (by kernel_rfl) ?_
       exact hj8 false
     ·let E18 : Env := ((50, .bool false) :: (49, .tuple []) :: (48, .tuple []) :: (47, .tuple []) :: (46, .tuple []) :: (45, .bool false) :: (44, .bool false) :: (43, .tuple []) :: (42, .tuple []) :: (41, .tuple []) :: (40, .tuple []) :: (39, .bool false) :: E5)
      refine oR 12 (p' := g23p11) (eE := E18) (H' := (mkH [⟨[.int .i64 0, .str [], .int .i64 0], 0, false⟩])) (by kernel_rfl) ?_
      refine oK [0, 1, 4, 6, 8, 50] (eE := [(0, .str a0), (1, .int .i64 a1), (4, .ptr 0 3 0), (6, .int .i64 z6.1), (8, .int .i64 (fW .i64 (a1 + z6.2))), (50, .bool false)]) (by kernel_rfl) ?_
      exact hj8 false
  ·refine oS 24 (b := decide (z6.2 = 0)) (by kernel_rfl) (fun hb => ?_) (fun hb => ?_)
   ·let E19 : Env := ((35, .bool true) :: (34, .tuple []) :: (33, .tuple []) :: (32, .tuple []) :: (31, .tuple []) :: (30, .tuple []) :: (29, .tuple []) :: (28, .tuple []) :: (27, .tuple []) :: (26, .tuple []) :: (25, .tuple []) :: (24, .bool true) :: E3)
    refine oR 12 (p' := g23p7) (eE := E19) (H' := (mkH [⟨[.int .i64 0, .str [], .int .i64 0], 0, false⟩])) (by kernel_rfl) ?_
    refine oK [0, 1, 4, 6, 8, 35] (eE := [(0, .str a0), (1, .int .i64 a1), (4, .ptr 0 3 0), (6, .int .i64 z6.1), (8, .int .i64 (fW .i64 (a1 + z6.2))), (35, .bool true)]) (by kernel_rfl) ?_
    exact hj7 true
   ·let E20 : Env := ((29, .bool (decide (fW .i64 (a1 + z6.2) < (a0.length : Int)))) :: (28, .bool (decide (fW .i64 (a1 + z6.2) < (a0.length : Int)))) :: (27, .int .i64 (a0.length : Int)) :: (26, .str a0) :: (25, .int .i64 (fW .i64 (a1 + z6.2))) :: (24, .bool false) :: E3)
    refine oR 5 (p' := (atN 8 (ctl1 g23p6))) (eE := E20) (H' := (mkH [⟨[.int .i64 0, .str [], .int .i64 0], 0, false⟩])) (by kernel_rfl) ?_
    refine oS 29 (b := decide (fW .i64 (a1 + z6.2) < (a0.length : Int))) (by kernel_rfl) (fun hb => ?_) (fun hb => ?_)
    ·refine oR 2 (p' := (atN 10 (ctl1 g23p6))) (eE := ((31, .int .i64 (fW .i64 (a1 + z6.2))) :: (30, .str a0) :: (29, .bool true) :: E20)) (H' := (mkH [⟨[.int .i64 0, .str [], .int .i64 0], 0, false⟩])) (by kernel_rfl) ?_
     refine oH (fun (x2_10 : Int) => (.int .u8 x2_10, (mkH [⟨[.int .i64 0, .str [], .int .i64 0], 0, false⟩]))) (atN 11 (ctl1 g23p6)) (fun x2_10 => ((32, .int .u8 x2_10) :: (31, .int .i64 (fW .i64 (a1 + z6.2))) :: (30, .str a0) :: (29, .bool true) :: E20)) (idxH (by kernel_rfl)) (fun _ => by kernel_rfl) (fun x2_10 hx2_10 => ?_)
     refine oC (fun (x2_11 : Bool) => .bool x2_11) (atN 12 (ctl1 g23p6)) (fun x2_11 => ((33, .bool x2_11) :: (32, .int .u8 x2_10) :: (31, .int .i64 (fW .i64 (a1 + z6.2))) :: (30, .str a0) :: (29, .bool true) :: E20)) (fi := 45) (args := [.int .u8 x2_10]) (by kernel_rfl) (by kernel_rfl) (fun _ => by kernel_rfl) (fun r h => g45_ok k x2_10 r h) (fun _ => by kernel_rfl) (fun x2_11 hx2_11 => ?_)
     let E21 : Env := ((35, .bool x2_11) :: (34, .bool x2_11) :: (33, .bool x2_11) :: (32, .int .u8 x2_10) :: (31, .int .i64 (fW .i64 (a1 + z6.2))) :: (30, .str a0) :: (29, .bool true) :: E20)
     refine oR 3 (p' := g23p7) (eE := E21) (H' := (mkH [⟨[.int .i64 0, .str [], .int .i64 0], 0, false⟩])) (by kernel_rfl) ?_
     refine oK [0, 1, 4, 6, 8, 35] (eE := [(0, .str a0), (1, .int .i64 a1), (4, .ptr 0 3 0), (6, .int .i64 z6.1), (8, .int .i64 (fW .i64 (a1 + z6.2))), (35, .bool x2_11)]) (by kernel_rfl) ?_
     exact hj7 x2_11
    ·let E22 : Env := ((35, .bool false) :: (34, .bool false) :: (33, .tuple []) :: (32, .tuple []) :: (31, .tuple []) :: (30, .tuple []) :: (29, .bool false) :: E20)
     refine oR 7 (p' := g23p7) (eE := E22) (H' := (mkH [⟨[.int .i64 0, .str [], .int .i64 0], 0, false⟩])) (by kernel_rfl) ?_
     refine oK [0, 1, 4, 6, 8, 35] (eE := [(0, .str a0), (1, .int .i64 a1), (4, .ptr 0 3 0), (6, .int .i64 z6.1), (8, .int .i64 (fW .i64 (a1 + z6.2))), (35, .bool false)]) (by kernel_rfl) ?_
     exact hj7 false
 ·refine oS 15 (b := decide (x0_2 = 0)) (by kernel_rfl) (fun hb => ?_) (fun hb => ?_)
  ·refine oR 4 (p' := (atN 2 (ctl1 g23p4))) (eE := ((17, .int .i64 a1) :: (16, .str a0) :: (15, .bool true) :: E2)) (H' := (mkH [⟨[.int .i64 0, .str [], .int .i64 0], 0, false⟩])) (by kernel_rfl) ?_
   refine oC (fun (x1_2 : Int) => .int .i64 x1_2) (atN 3 (ctl1 g23p4)) (fun x1_2 => ((18, .int .i64 x1_2) :: (17, .int .i64 a1) :: (16, .str a0) :: (15, .bool true) :: E2)) (fi := 44) (args := [.str a0, .int .i64 a1]) (by kernel_rfl) (by kernel_rfl) (fun _ => by kernel_rfl) (fun r h => g44_ok k a0 a1 r h) (fun _ => by kernel_rfl) (fun x1_2 hx1_2 => ?_)
   let E23 : Env := ((7, .int .i64 x1_2) :: (6, .int .i64 3) :: (18, .int .i64 x1_2) :: (17, .int .i64 a1) :: (16, .str a0) :: (15, .bool true) :: E2)
   refine oR 4 (p' := g23p5) (eE := E23) (H' := (mkH [⟨[.int .i64 0, .str [], .int .i64 0], 0, false⟩])) (by kernel_rfl) ?_
   refine oK [0, 1, 4, 6, 7] (eE := [(0, .str a0), (1, .int .i64 a1), (4, .ptr 0 3 0), (6, .int .i64 3), (7, .int .i64 x1_2)]) (by kernel_rfl) ?_
   exact hj6 (3, x1_2)
  ·refine oR 3 (p' := g23p5) (eE := ((15, .bool false) :: E2)) (H' := (mkH [⟨[.int .i64 0, .str [], .int .i64 0], 0, false⟩])) (by kernel_rfl) ?_
   refine oK [0, 1, 4, 6, 7] (eE := [(0, .str a0), (1, .int .i64 a1), (4, .ptr 0 3 0), (6, .int .i64 4), (7, .int .i64 x0_2)]) (by kernel_rfl) ?_
   exact hj6 (4, x0_2)
end
end Go.Proofs.Ytokcjgjgojlhbaa.Am
set_option maxRecDepth 100000
set_option linter.unusedVariables false
namespace Go.Proofs.Ytokcjgjgojlhbaa.Am
noncomputable section
open Go
def X24 : Fx Int := ⟨Try.prog, cx, Try.f24, fun r => .int .i64 r, 0, fun _ => H0, cxTi, cxOrd⟩
def g24p0 : Pt := nav [0] (bodyAt Try.f24)
def g24p1 : Pt := nav [0, 0, 0, 0, 0] g24p0
def g24p2 : Pt := nav [0, 0, 0] g24p1
def g24p3 : Pt := nav [0, 0] g24p2
def g24_l1 (k : Nat)  (a0 : (List Nat)) (n : Nat) : Int → Option Int :=
 Nat.rec (motive := fun _ => Int → Option Int) (fun _ => none) (fun _ ih => fun (y1_0 : Int) => jn (fun (z2 : Bool × Int) => if z2.1 then (ih (fW .i64 (z2.2 + 1))) else (some z2.2)) (fun j2 => if (decide (y1_0 < (a0.length : Int))) then ((nthS a0 y1_0).bind fun x0_7 => (g45 k x0_7).bind fun x0_8 => j2 (x0_8, y1_0)) else (j2 (false, y1_0)))) n
theorem g24_l1_s (k : Nat)  (a0 : (List Nat)) (n : Nat) (y1_0 : Int) : g24_l1 k a0 (n + 1) y1_0 = (jn (fun (z2 : Bool × Int) => if z2.1 then ((g24_l1 k a0 n) (fW .i64 (z2.2 + 1))) else (some z2.2)) (fun j2 => if (decide (y1_0 < (a0.length : Int))) then ((nthS a0 y1_0).bind fun x0_7 => (g45 k x0_7).bind fun x0_8 => j2 (x0_8, y1_0)) else (j2 (false, y1_0)))) := rfl
theorem g24_l1_ok (k : Nat)  (a0 : (List Nat))  : ∀ (n : Nat) (y1_0 : Int), Ok X24 g24p1 [(0, .str a0), (1, .int .i64 y1_0)] (mkH []) (g24_l1 k a0 n y1_0)
 | 0, _ => ok_none
 | n + 1, y1_0 => by
  have ih := g24_l1_ok k a0 n
  rw [g24_l1_s]
  refine ok_ent (p' := nav [0] g24p1) (by kernel_rfl) ?_
  let E1 : Env := [(9, .bool (decide (y1_0 < (a0.length : Int)))), (8, .bool (decide (y1_0 < (a0.length : Int)))), (7, .int .i64 (a0.length : Int)), (6, .str a0), (5, .int .i64 y1_0), (0, .str a0), (1, .int .i64 y1_0)]
  refine oR 8 (p' := (atN 5 (ctl1 g24p2))) (eE := E1) (H' := (mkH [])) (by kernel_rfl) ?_
  refine oJ (f := fun (z2 : Bool × Int) => if z2.1 then ((g24_l1 k a0 n) (fW .i64 (z2.2 + 1))) else (some z2.2)) g24p3 (fun (z2 : Bool × Int) => [(0, .str a0), (1, .int .i64 z2.2), (14, .bool z2.1)]) (fun (z2 : Bool × Int) => (mkH [])) (fun z2 => ?_) (fun j2 hj2 => ?_)
  ·refine oS 14 (b := z2.1) (by kernel_rfl) (fun hb => ?_) (fun hb => ?_)
   ·let E2 : Env := [(1, .int .i64 (fW .i64 (z2.2 + 1))), (16, .int .i64 (fW .i64 (z2.2 + 1))), (15, .int .i64 z2.2), (14, .bool true), (0, .str a0), (1, .int .i64 z2.2), (14, .bool z2.1)]
    refine oR 8 (p' := g24p1) (eE := E2) (H' := (mkH [])) (by kernel_rfl) ?_
    refine oK [0, 1] (eE := [(0, .str a0), (1, .int .i64 (fW .i64 (z2.2 + 1)))]) (by kernel_rfl) ?_
    exact ih (fW .i64 (z2.2 + 1))
   ·let E3 : Env := [(4, .int .i64 z2.2), (17, .int .i64 z2.2), (14, .bool false), (0, .str a0), (1, .int .i64 z2.2), (14, .bool z2.1)]
    refine oR 8 (p' := .fin) (eE := E3) (H' := (mkH [])) (by kernel_rfl) ?_
    exact oT (r := z2.2) (xs := [.int .i64 z2.2]) (v := .int .i64 z2.2) (by kernel_rfl) (by kernel_rfl) (by kernel_rfl) (.pures (by kernel_rfl)) (by kernel_rfl)
  ·refine oS 9 (b := decide (y1_0 < (a0.length : Int))) (by kernel_rfl) (fun hb => ?_) (fun hb => ?_)
   ·refine oR 2 (p' := (atN 7 (ctl1 g24p2))) (eE := ((11, .int .i64 y1_0) :: (10, .str a0) :: (9, .bool true) :: E1)) (H' := (mkH [])) (by kernel_rfl) ?_
    refine oH (fun (x0_7 : Int) => (.int .u8 x0_7, (mkH []))) (atN 8 (ctl1 g24p2)) (fun x0_7 => ((12, .int .u8 x0_7) :: (11, .int .i64 y1_0) :: (10, .str a0) :: (9, .bool true) :: E1)) (idxH (by kernel_rfl)) (fun _ => by kernel_rfl) (fun x0_7 hx0_7 => ?_)
    refine oC (fun (x0_8 : Bool) => .bool x0_8) (atN 9 (ctl1 g24p2)) (fun x0_8 => ((13, .bool x0_8) :: (12, .int .u8 x0_7) :: (11, .int .i64 y1_0) :: (10, .str a0) :: (9, .bool true) :: E1)) (fi := 45) (args := [.int .u8 x0_7]) (by kernel_rfl) (by kernel_rfl) (fun _ => by kernel_rfl) (fun r h => g45_ok k x0_7 r h) (fun _ => by kernel_rfl) (fun x0_8 hx0_8 => ?_)
    let E4 : Env := ((14, .bool x0_8) :: (13, .bool x0_8) :: (12, .int .u8 x0_7) :: (11, .int .i64 y1_0) :: (10, .str a0) :: (9, .bool true) :: E1)
    refine oR 2 (p' := g24p3) (eE := E4) (H' := (mkH [])) (by kernel_rfl) ?_
    refine oK [0, 1, 14] (eE := [(0, .str a0), (1, .int .i64 y1_0), (14, .bool x0_8)]) (by kernel_rfl) ?_
    exact hj2 (x0_8, y1_0)
   ·let E5 : Env := ((14, .bool false) :: (13, .tuple []) :: (12, .tuple []) :: (11, .tuple []) :: (10, .tuple []) :: (9, .bool false) :: E1)
    refine oR 6 (p' := g24p3) (eE := E5) (H' := (mkH [])) (by kernel_rfl) ?_
    refine oK [0, 1, 14] (eE := [(0, .str a0), (1, .int .i64 y1_0), (14, .bool false)]) (by kernel_rfl) ?_
    exact hj2 (false, y1_0)
def g24 (k : Nat) (a0 : (List Nat)) (a1 : Int) : Option Int :=
 g24_l1 k a0 k a1
theorem g24_ok (k : Nat) (a0 : (List Nat)) (a1 : Int) (r : Int) (h : g24 k a0 a1 = some r) : PureOk Try.prog 24 [.str a0, .int .i64 a1] (.int .i64 r) := by
 refine pure_of X24 (fun _ => rfl) Try.func24 (by decide +kernel) (by kernel_rfl) (t := g24 k a0 a1) ?_ h
 unfold g24
 refine oE (eE := [(0, .str a0), (1, .int .i64 a1)]) (by kernel_rfl) ?_
 refine oR 7 (p' := g24p1) (eE := [(4, .int .i64 0), (0, .str a0), (1, .int .i64 a1)]) (H' := (mkH [])) (by kernel_rfl) ?_
 refine oK [0, 1] (eE := [(0, .str a0), (1, .int .i64 a1)]) (by kernel_rfl) ?_
 exact (g24_l1_ok k a0 k) a1
end
end Go.Proofs.Ytokcjgjgojlhbaa.Am
set_option maxRecDepth 100000
set_option linter.unusedVariables false
namespace Go.Proofs.Ytokcjgjgojlhbaa.Am
noncomputable section
open Go
def X26 : Fx Int := ⟨Try.prog, cx, Try.f26, fun r => .int .i64 r, 0, fun _ => H0, cxTi, cxOrd⟩
def g26p0 : Pt := nav [0] (bodyAt Try.f26)
def g26p1 : Pt := nav [0, 0, 0] g26p0
def g26p2 : Pt := nav [0, 0, 0, 0, 0] g26p1
def g26p3 : Pt := nav [0, 0, 0] g26p2
def g26p4 : Pt := nav [0] g26p3
def g26p5 : Pt := nav [1, 0, 0, 0, 0] g26p4
def g26p6 : Pt := nav [2, 0, 0, 0] g26p4
def g26p7 : Pt := nav [0, 0] g26p5
def g26p8 : Pt := nav [0, 0] g26p6
def g26p10 : Pt := nav [2, 0, 0] g26p7
def g26p13 : Pt := nav [0, 0, 0, 0] g26p10
def g26p15 : Pt := nav [0, 0] g26p13
def g26_l3 (k : Nat)  (a0 : (List Nat)) (a1 : Int) (n : Nat) : Int → Option Int :=
 Nat.rec (motive := fun _ => Int → Option Int) (fun _ => none) (fun _ ih => fun (y3_0 : Int) => jn (fun (z4 : Bool × Int) => if z4.1 then ((nthS a0 z4.2).bind fun x1_2 => jn (fun (z5 : Int) => (g32 k a0 z5).bind fun x2_2 => jn (fun (z6 : Bool) => if z6 then (some (0 : Int)) else (ih (fW .i64 (z5 + x2_2.2)))) (fun j6 => if (decide (x2_2.1 < 32)) then (j6 true) else (j6 (decide (x2_2.1 = 127))))) (fun j5 => if (decide (x1_2 = 92)) then (j5 (fW .i64 (z4.2 + 1))) else (j5 z4.2))) else (if (decide ((a0.length : Int) ≤ z4.2)) then (some (0 : Int)) else (some (fW .i64 (fW .i64 (z4.2 + 1) - a1))))) (fun j4 => if (decide (y3_0 < (a0.length : Int))) then ((nthS a0 y3_0).bind fun x0_7 => (nthS a0 a1).bind fun x0_10 => j4 (!decide (x0_7 = x0_10), y3_0)) else (j4 (false, y3_0)))) n
theorem g26_l3_s (k : Nat)  (a0 : (List Nat)) (a1 : Int) (n : Nat) (y3_0 : Int) : g26_l3 k a0 a1 (n + 1) y3_0 = (jn (fun (z4 : Bool × Int) => if z4.1 then ((nthS a0 z4.2).bind fun x1_2 => jn (fun (z5 : Int) => (g32 k a0 z5).bind fun x2_2 => jn (fun (z6 : Bool) => if z6 then (some (0 : Int)) else ((g26_l3 k a0 a1 n) (fW .i64 (z5 + x2_2.2)))) (fun j6 => if (decide (x2_2.1 < 32)) then (j6 true) else (j6 (decide (x2_2.1 = 127))))) (fun j5 => if (decide (x1_2 = 92)) then (j5 (fW .i64 (z4.2 + 1))) else (j5 z4.2))) else (if (decide ((a0.length : Int) ≤ z4.2)) then (some (0 : Int)) else (some (fW .i64 (fW .i64 (z4.2 + 1) - a1))))) (fun j4 => if (decide (y3_0 < (a0.length : Int))) then ((nthS a0 y3_0).bind fun x0_7 => (nthS a0 a1).bind fun x0_10 => j4 (!decide (x0_7 = x0_10), y3_0)) else (j4 (false, y3_0)))) := rfl
theorem g26_l3_ok (k : Nat)  (a0 : (List Nat)) (a1 : Int)  : ∀ (n : Nat) (y3_0 : Int), Ok X26 g26p2 [(0, .str a0), (1, .int .i64 a1), (5, .int .i64 y3_0)] (mkH []) (g26_l3 k a0 a1 n y3_0)
 | 0, _ => ok_none
 | n + 1, y3_0 => by
  have ih := g26_l3_ok k a0 a1 n
  rw [g26_l3_s]
  refine ok_ent (p' := nav [0] g26p2) (by kernel_rfl) ?_
  refine oR 2 (p' := g26p3) (eE := [(0, .str a0), (1, .int .i64 a1), (5, .int .i64 y3_0)]) (H' := (mkH [])) (by kernel_rfl) ?_
  refine oJ (f := fun (z4 : Bool × Int) => if z4.1 then ((nthS a0 z4.2).bind fun x1_2 => jn (fun (z5 : Int) => (g32 k a0 z5).bind fun x2_2 => jn (fun (z6 : Bool) => if z6 then (some (0 : Int)) else ((g26_l3 k a0 a1 n) (fW .i64 (z5 + x2_2.2)))) (fun j6 => if (decide (x2_2.1 < 32)) then (j6 true) else (j6 (decide (x2_2.1 = 127))))) (fun j5 => if (decide (x1_2 = 92)) then (j5 (fW .i64 (z4.2 + 1))) else (j5 z4.2))) else (if (decide ((a0.length : Int) ≤ z4.2)) then (some (0 : Int)) else (some (fW .i64 (fW .i64 (z4.2 + 1) - a1))))) g26p4 (fun (z4 : Bool × Int) => [(0, .str a0), (1, .int .i64 a1), (5, .int .i64 z4.2), (22, .bool z4.1)]) (fun (z4 : Bool × Int) => (mkH [])) (fun z4 => ?_) (fun j4 hj4 => ?_)
  ·refine oS 22 (b := z4.1) (by kernel_rfl) (fun hb => ?_) (fun hb => ?_)
   ·let E2 : Env := [(24, .int .i64 z4.2), (23, .str a0), (22, .bool true), (0, .str a0), (1, .int .i64 a1), (5, .int .i64 z4.2), (22, .bool z4.1)]
    refine oR 8 (p' := (atN 2 (ctl1 g26p5))) (eE := E2) (H' := (mkH [])) (by kernel_rfl) ?_
    refine oH (fun (x1_2 : Int) => (.int .u8 x1_2, (mkH []))) (atN 3 (ctl1 g26p5)) (fun x1_2 => ((25, .int .u8 x1_2) :: E2)) (idxH (by kernel_rfl)) (fun _ => by kernel_rfl) (fun x1_2 hx1_2 => ?_)
    refine oR 2 (p' := g26p7) (eE := ((26, .bool (decide (x1_2 = 92))) :: (25, .int .u8 x1_2) :: E2)) (H' := (mkH [])) (by kernel_rfl) ?_
    refine oJ (f := fun (z5 : Int) => (g32 k a0 z5).bind fun x2_2 => jn (fun (z6 : Bool) => if z6 then (some (0 : Int)) else ((g26_l3 k a0 a1 n) (fW .i64 (z5 + x2_2.2)))) (fun j6 => if (decide (x2_2.1 < 32)) then (j6 true) else (j6 (decide (x2_2.1 = 127))))) g26p10 (fun (z5 : Int) => [(0, .str a0), (1, .int .i64 a1), (5, .int .i64 z5)]) (fun (z5 : Int) => (mkH [])) (fun z5 => ?_) (fun j5 hj5 => ?_)
    ·let E3 : Env := [(31, .int .i64 z5), (30, .str a0), (0, .str a0), (1, .int .i64 a1), (5, .int .i64 z5)]
     refine oR 3 (p' := (atN 2 (ctl1 g26p10))) (eE := E3) (H' := (mkH [])) (by kernel_rfl) ?_
     refine oC (fun (x2_2 : (Int × Int)) => .tuple [.int .i64 x2_2.1, .int .i64 x2_2.2]) (atN 3 (ctl1 g26p10)) (fun x2_2 => ((32, .tuple [.int .i64 x2_2.1, .int .i64 x2_2.2]) :: E3)) (fi := 32) (args := [.str a0, .int .i64 z5]) (by kernel_rfl) (by kernel_rfl) (fun _ => by kernel_rfl) (fun r h => g32_ok k a0 z5 r h) (fun _ => by kernel_rfl) (fun x2_2 hx2_2 => ?_)
     let E4 : Env := ((37, .bool (decide (x2_2.1 < 32))) :: (36, .bool (decide (x2_2.1 < 32))) :: (35, .int .i64 x2_2.1) :: (7, .int .i64 x2_2.2) :: (6, .int .i64 x2_2.1) :: (34, .int .i64 x2_2.2) :: (33, .int .i64 x2_2.1) :: (29, .tuple [.int .i64 x2_2.1, .int .i64 x2_2.2]) :: (32, .tuple [.int .i64 x2_2.1, .int .i64 x2_2.2]) :: E3)
     refine oR 12 (p' := (atN 3 (ctl1 g26p13))) (eE := E4) (H' := (mkH [])) (by kernel_rfl) ?_
     refine oJ (f := fun (z6 : Bool) => if z6 then (some (0 : Int)) else ((g26_l3 k a0 a1 n) (fW .i64 (z5 + x2_2.2)))) g26p15 (fun (z6 : Bool) => [(0, .str a0), (1, .int .i64 a1), (5, .int .i64 z5), (7, .int .i64 x2_2.2), (40, .bool z6)]) (fun (z6 : Bool) => (mkH [])) (fun z6 => ?_) (fun j6 hj6 => ?_)
     ·refine oS 40 (b := z6) (by kernel_rfl) (fun hb => ?_) (fun hb => ?_)
      ·let E5 : Env := [(4, .int .i64 0), (40, .bool true), (0, .str a0), (1, .int .i64 a1), (5, .int .i64 z5), (7, .int .i64 x2_2.2), (40, .bool z6)]
       refine oR 6 (p' := .fin) (eE := E5) (H' := (mkH [])) (by kernel_rfl) ?_
       exact oT (r := (0 : Int)) (xs := [.int .i64 0]) (v := .int .i64 0) (by kernel_rfl) (by kernel_rfl) (by kernel_rfl) (.pures (by kernel_rfl)) (by kernel_rfl)
      ·let E6 : Env := [(5, .int .i64 (fW .i64 (z5 + x2_2.2))), (43, .int .i64 (fW .i64 (z5 + x2_2.2))), (42, .int .i64 x2_2.2), (41, .int .i64 z5), (40, .bool false), (0, .str a0), (1, .int .i64 a1), (5, .int .i64 z5), (7, .int .i64 x2_2.2), (40, .bool z6)]
       refine oR 8 (p' := g26p2) (eE := E6) (H' := (mkH [])) (by kernel_rfl) ?_
       refine oK [0, 1, 5] (eE := [(0, .str a0), (1, .int .i64 a1), (5, .int .i64 (fW .i64 (z5 + x2_2.2)))]) (by kernel_rfl) ?_
       exact ih (fW .i64 (z5 + x2_2.2))
     ·refine oS 37 (b := decide (x2_2.1 < 32)) (by kernel_rfl) (fun hb => ?_) (fun hb => ?_)
      ·refine oR 4 (p' := g26p15) (eE := ((40, .bool true) :: (39, .tuple []) :: (38, .tuple []) :: (37, .bool true) :: E4)) (H' := (mkH [])) (by kernel_rfl) ?_
       refine oK [0, 1, 5, 7, 40] (eE := [(0, .str a0), (1, .int .i64 a1), (5, .int .i64 z5), (7, .int .i64 x2_2.2), (40, .bool true)]) (by kernel_rfl) ?_
       exact hj6 true
      ·refine oR 4 (p' := g26p15) (eE := ((40, .bool (decide (x2_2.1 = 127))) :: (39, .bool (decide (x2_2.1 = 127))) :: (38, .int .i64 x2_2.1) :: (37, .bool false) :: E4)) (H' := (mkH [])) (by kernel_rfl) ?_
       refine oK [0, 1, 5, 7, 40] (eE := [(0, .str a0), (1, .int .i64 a1), (5, .int .i64 z5), (7, .int .i64 x2_2.2), (40, .bool (decide (x2_2.1 = 127)))]) (by kernel_rfl) ?_
       exact hj6 (decide (x2_2.1 = 127))
    ·refine oS 26 (b := decide (x1_2 = 92)) (by kernel_rfl) (fun hb => ?_) (fun hb => ?_)
     ·let E7 : Env := ((5, .int .i64 (fW .i64 (z4.2 + 1))) :: (28, .int .i64 (fW .i64 (z4.2 + 1))) :: (27, .int .i64 z4.2) :: (26, .bool true) :: (26, .bool (decide (x1_2 = 92))) :: (25, .int .u8 x1_2) :: E2)
      refine oR 7 (p' := g26p10) (eE := E7) (H' := (mkH [])) (by kernel_rfl) ?_
      refine oK [0, 1, 5] (eE := [(0, .str a0), (1, .int .i64 a1), (5, .int .i64 (fW .i64 (z4.2 + 1)))]) (by kernel_rfl) ?_
      exact hj5 (fW .i64 (z4.2 + 1))
     ·refine oR 3 (p' := g26p10) (eE := ((26, .bool false) :: (26, .bool (decide (x1_2 = 92))) :: (25, .int .u8 x1_2) :: E2)) (H' := (mkH [])) (by kernel_rfl) ?_
      refine oK [0, 1, 5] (eE := [(0, .str a0), (1, .int .i64 a1), (5, .int .i64 z4.2)]) (by kernel_rfl) ?_
      exact hj5 z4.2
   ·let E8 : Env := [(47, .bool (decide ((a0.length : Int) ≤ z4.2))), (46, .int .i64 (a0.length : Int)), (45, .str a0), (44, .int .i64 z4.2), (22, .bool false), (0, .str a0), (1, .int .i64 a1), (5, .int .i64 z4.2), (22, .bool z4.1)]
    refine oR 10 (p' := g26p8) (eE := E8) (H' := (mkH [])) (by kernel_rfl) ?_
    refine oS 47 (b := decide ((a0.length : Int) ≤ z4.2)) (by kernel_rfl) (fun hb => ?_) (fun hb => ?_)
    ·refine oR 6 (p' := .fin) (eE := ((4, .int .i64 0) :: (47, .bool true) :: E8)) (H' := (mkH [])) (by kernel_rfl) ?_
     exact oT (r := (0 : Int)) (xs := [.int .i64 0]) (v := .int .i64 0) (by kernel_rfl) (by kernel_rfl) (by kernel_rfl) (.pures (by kernel_rfl)) (by kernel_rfl)
    ·let E9 : Env := ((4, .int .i64 (fW .i64 (fW .i64 (z4.2 + 1) - a1))) :: (51, .int .i64 (fW .i64 (fW .i64 (z4.2 + 1) - a1))) :: (50, .int .i64 a1) :: (49, .int .i64 (fW .i64 (z4.2 + 1))) :: (48, .int .i64 z4.2) :: (47, .bool false) :: E8)
     refine oR 11 (p' := .fin) (eE := E9) (H' := (mkH [])) (by kernel_rfl) ?_
     exact oT (r := (fW .i64 (fW .i64 (z4.2 + 1) - a1))) (xs := [.int .i64 (fW .i64 (fW .i64 (z4.2 + 1) - a1))]) (v := .int .i64 (fW .i64 (fW .i64 (z4.2 + 1) - a1))) (by kernel_rfl) (by kernel_rfl) (by kernel_rfl) (.pures (by kernel_rfl)) (by kernel_rfl)
  ·refine ok_if (fun hb4 => ?_) (fun hb4 => ?_)
   ·refine ok_bind (fun x0_7 hx0_7 => ?_)
    refine ok_bind (fun x0_10 hx0_10 => ?_)
    let E10 : Env := [(14, .bool (decide (y3_0 < (a0.length : Int)))), (13, .bool (decide (y3_0 < (a0.length : Int)))), (12, .int .i64 (a0.length : Int)), (11, .str a0), (10, .int .i64 y3_0), (0, .str a0), (1, .int .i64 a1), (5, .int .i64 y3_0)]
    let E11 : Env := [(16, .int .i64 y3_0), (15, .str a0), (14, .bool true), (13, .bool true), (12, .int .i64 (a0.length : Int)), (11, .str a0), (10, .int .i64 y3_0), (0, .str a0), (1, .int .i64 a1), (5, .int .i64 y3_0)]
    let E12 : Env := ((22, .bool (!decide (x0_7 = x0_10))) :: (21, .bool (!decide (x0_7 = x0_10))) :: (20, .int .u8 x0_10) :: (19, .int .i64 a1) :: (18, .str a0) :: (17, .int .u8 x0_7) :: E11)
    refine ok_draw (p' := nav [0] g26p3) (eE := E12) (H' := (mkH [])) (hs := []) [(0, 0, 0), (0, 0, 0), (2, 0, 0), (7, 0, 0), (15, 0, 0), (31, 0, 0), (31, 0, 0), (127, 0, 0), (31, 0, 0), (31, 0, 0), (799, 0, 0), (2047, 0, 0), (4095, 0, 0)] (by kernel_rfl) (by kernel_rfl) (by kernel_rfl) (opsD_run 5 (l' := (opsAt g26p3).toList.drop 5) (eE := E10) (H' := (mkH [])) (hs := []) (by kernel_rfl) (opsD_env (eE := [(14, .bool true), (13, .bool true), (12, .int .i64 (a0.length : Int)), (11, .str a0), (10, .int .i64 y3_0), (0, .str a0), (1, .int .i64 a1), (5, .int .i64 y3_0)]) (congrArg (fun z : Bool => ([(14, .bool z), (13, .bool z), (12, .int .i64 (a0.length : Int)), (11, .str a0), (10, .int .i64 y3_0), (0, .str a0), (1, .int .i64 a1), (5, .int .i64 y3_0)] : Env)) hb4) (opsD_run 2 (l' := (opsAt g26p3).toList.drop 7) (eE := E11) (H' := (mkH [])) (hs := []) (by kernel_rfl) (opsD_chk (l' := (opsAt g26p3).toList.drop 8) (eE := ((17, .int .u8 x0_7) :: E11)) (hs := []) (x := x0_7) (fun (x0_7 : Int) => (.int .u8 x0_7, (mkH []))) (idxH (by kernel_rfl)) hx0_7 (by kernel_rfl) (opsD_run 2 (l' := (opsAt g26p3).toList.drop 10) (eE := ((19, .int .i64 a1) :: (18, .str a0) :: (17, .int .u8 x0_7) :: E11)) (H' := (mkH [])) (hs := []) (by kernel_rfl) (opsD_chk (l' := (opsAt g26p3).toList.drop 11) (eE := ((20, .int .u8 x0_10) :: (19, .int .i64 a1) :: (18, .str a0) :: (17, .int .u8 x0_7) :: E11)) (hs := []) (x := x0_10) (fun (x0_10 : Int) => (.int .u8 x0_10, (mkH []))) (idxH (by kernel_rfl)) hx0_10 (by kernel_rfl) (opsD_run 2 (l' := (opsAt g26p3).toList.drop 13) (eE := E12) (H' := (mkH [])) (hs := []) (by kernel_rfl) (.nil)))))))) (by kernel_rfl) (by kernel_rfl) (by kernel_rfl) ?_
    refine oK [0, 1, 5, 22] (eE := [(0, .str a0), (1, .int .i64 a1), (5, .int .i64 y3_0), (22, .bool (!decide (x0_7 = x0_10)))]) (by kernel_rfl) ?_
    exact hj4 (!decide (x0_7 = x0_10), y3_0)
   ·let E10 : Env := [(14, .bool (decide (y3_0 < (a0.length : Int)))), (13, .bool (decide (y3_0 < (a0.length : Int)))), (12, .int .i64 (a0.length : Int)), (11, .str a0), (10, .int .i64 y3_0), (0, .str a0), (1, .int .i64 a1), (5, .int .i64 y3_0)]
    let E13 : Env := [(22, .bool false), (21, .tuple []), (20, .tuple []), (19, .tuple []), (18, .tuple []), (17, .tuple []), (16, .tuple []), (15, .tuple []), (14, .bool false), (13, .bool false), (12, .int .i64 (a0.length : Int)), (11, .str a0), (10, .int .i64 y3_0), (0, .str a0), (1, .int .i64 a1), (5, .int .i64 y3_0)]
    refine ok_draw (p' := nav [0] g26p3) (eE := E13) (H' := (mkH [])) (hs := []) [(0, 0, 0), (0, 0, 0), (2, 0, 0), (7, 0, 0), (15, 0, 0), (31, 0, 0), (31, 0, 0), (127, 0, 0), (31, 0, 0), (31, 0, 0), (799, 0, 0), (2047, 0, 0), (4095, 0, 0)] (by kernel_rfl) (by kernel_rfl) (by kernel_rfl) (opsD_run 5 (l' := (opsAt g26p3).toList.drop 5) (eE := E10) (H' := (mkH [])) (hs := []) (by kernel_rfl) (opsD_env (eE := [(14, .bool false), (13, .bool false), (12, .int .i64 (a0.length : Int)), (11, .str a0), (10, .int .i64 y3_0), (0, .str a0), (1, .int .i64 a1), (5, .int .i64 y3_0)]) (congrArg (fun z : Bool => ([(14, .bool z), (13, .bool z), (12, .int .i64 (a0.length : Int)), (11, .str a0), (10, .int .i64 y3_0), (0, .str a0), (1, .int .i64 a1), (5, .int .i64 y3_0)] : Env)) hb4) (opsD_run 8 (l' := (opsAt g26p3).toList.drop 13) (eE := E13) (H' := (mkH [])) (hs := []) (by kernel_rfl) (.nil)))) (by kernel_rfl) (by kernel_rfl) (by kernel_rfl) ?_
    refine oK [0, 1, 5, 22] (eE := [(0, .str a0), (1, .int .i64 a1), (5, .int .i64 y3_0), (22, .bool false)]) (by kernel_rfl) ?_
    exact hj4 (false, y3_0)
def g26 (k : Nat) (a0 : (List Nat)) (a1 : Int) : Option Int :=
 g26_l3 k a0 a1 k (fW .i64 (a1 + 1))
theorem g26_ok (k : Nat) (a0 : (List Nat)) (a1 : Int) (r : Int) (h : g26 k a0 a1 = some r) : PureOk Try.prog 26 [.str a0, .int .i64 a1] (.int .i64 r) := by
 refine pure_of X26 (fun _ => rfl) Try.func26 (by decide +kernel) (by kernel_rfl) (t := g26 k a0 a1) ?_ h
 unfold g26
 refine oE (eE := [(0, .str a0), (1, .int .i64 a1)]) (by kernel_rfl) ?_
 let E1 : Env := [(5, .int .i64 (fW .i64 (a1 + 1))), (9, .int .i64 (fW .i64 (a1 + 1))), (8, .int .i64 a1), (4, .int .i64 0), (0, .str a0), (1, .int .i64 a1)]
 refine oR 13 (p' := g26p2) (eE := E1) (H' := (mkH [])) (by kernel_rfl) ?_
 refine oK [0, 1, 5] (eE := [(0, .str a0), (1, .int .i64 a1), (5, .int .i64 (fW .i64 (a1 + 1)))]) (by kernel_rfl) ?_
 exact (g26_l3_ok k a0 a1 k) (fW .i64 (a1 + 1))
end
end Go.Proofs.Ytokcjgjgojlhbaa.Am
set_option maxRecDepth 100000
set_option linter.unusedVariables false
namespace Go.Proofs.Ytokcjgjgojlhbaa.Am
noncomputable section
open Go
def X27 : Fx Int := ⟨Try.prog, cx, Try.f27, fun r => .int .i64 r, 0, fun _ => H0, cxTi, cxOrd⟩
def g27p0 : Pt := nav [0] (bodyAt Try.f27)
def g27p1 : Pt := nav [0, 0, 0, 0] g27p0
def g27p2 : Pt := nav [0, 0] g27p1
def g27p3 : Pt := nav [1, 0, 0] g27p2
def g27p4 : Pt := nav [2, 0, 0] g27p2
def g27p5 : Pt := nav [0, 0, 0] g27p3
def g27p6 : Pt := nav [0, 0, 0, 0] g27p4
def g27p7 : Pt := nav [0, 0] g27p5
def g27p8 : Pt := nav [0, 0] g27p6
def g27 (k : Nat) (a0 : (List Nat)) (a1 : Int) : Option Int :=
 jn (fun (z3 : Bool) => if z3 then ((g46 k a0 (fW .i64 (a1 + 1))).bind fun x1_3 => if (decide (0 ≤ x1_3.1)) then (some (fW .i64 (x1_3.2 + 1))) else (some (0 : Int))) else ((g32 k a0 (fW .i64 (a1 + 1))).bind fun x2_3 => jn (fun (z4 : Bool) => if z4 then (some (0 : Int)) else (some (fW .i64 (x2_3.2 + 1)))) (fun j4 => if (decide (x2_3.1 ≤ 32)) then (j4 true) else (j4 (decide (x2_3.1 = 127)))))) (fun j3 => if (decide (fW .i64 (a1 + 1) < (a0.length : Int))) then ((nthS a0 (fW .i64 (a1 + 1))).bind fun x0_9 => j3 (decide (x0_9 = 92))) else (j3 false))
theorem g27_ok (k : Nat) (a0 : (List Nat)) (a1 : Int) (r : Int) (h : g27 k a0 a1 = some r) : PureOk Try.prog 27 [.str a0, .int .i64 a1] (.int .i64 r) := by
 refine pure_of X27 (fun _ => rfl) Try.func27 (by decide +kernel) (by kernel_rfl) (t := g27 k a0 a1) ?_ h
 unfold g27
 refine oE (eE := [(0, .str a0), (1, .int .i64 a1)]) (by kernel_rfl) ?_
 let E1 : Env := [(14, .bool (decide (fW .i64 (a1 + 1) < (a0.length : Int)))), (13, .bool (decide (fW .i64 (a1 + 1) < (a0.length : Int)))), (12, .int .i64 (a0.length : Int)), (11, .str a0), (10, .int .i64 (fW .i64 (a1 + 1))), (9, .int .i64 a1), (4, .int .i64 0), (0, .str a0), (1, .int .i64 a1)]
 refine oR 13 (p' := (atN 6 (ctl1 g27p1))) (eE := E1) (H' := (mkH [])) (by kernel_rfl) ?_
 refine oJ (f := fun (z3 : Bool) => if z3 then ((g46 k a0 (fW .i64 (a1 + 1))).bind fun x1_3 => if (decide (0 ≤ x1_3.1)) then (some (fW .i64 (x1_3.2 + 1))) else (some (0 : Int))) else ((g32 k a0 (fW .i64 (a1 + 1))).bind fun x2_3 => jn (fun (z4 : Bool) => if z4 then (some (0 : Int)) else (some (fW .i64 (x2_3.2 + 1)))) (fun j4 => if (decide (x2_3.1 ≤ 32)) then (j4 true) else (j4 (decide (x2_3.1 = 127)))))) g27p2 (fun (z3 : Bool) => [(0, .str a0), (1, .int .i64 a1), (20, .bool z3)]) (fun (z3 : Bool) => (mkH [])) (fun z3 => ?_) (fun j3 hj3 => ?_)
 ·refine oS 20 (b := z3) (by kernel_rfl) (fun hb => ?_) (fun hb => ?_)
  ·let E2 : Env := [(24, .int .i64 (fW .i64 (a1 + 1))), (23, .int .i64 a1), (22, .str a0), (20, .bool true), (0, .str a0), (1, .int .i64 a1), (20, .bool z3)]
   refine oR 7 (p' := (atN 3 (ctl1 g27p3))) (eE := E2) (H' := (mkH [])) (by kernel_rfl) ?_
   refine oC (fun (x1_3 : (Int × Int)) => .tuple [.int .i64 x1_3.1, .int .i64 x1_3.2]) (atN 4 (ctl1 g27p3)) (fun x1_3 => ((25, .tuple [.int .i64 x1_3.1, .int .i64 x1_3.2]) :: E2)) (fi := 46) (args := [.str a0, .int .i64 (fW .i64 (a1 + 1))]) (by kernel_rfl) (by kernel_rfl) (fun _ => by kernel_rfl) (fun r h => g46_ok k a0 (fW .i64 (a1 + 1)) r h) (fun _ => by kernel_rfl) (fun x1_3 hx1_3 => ?_)
   let E3 : Env := ((6, .int .i64 x1_3.2) :: (5, .int .i64 x1_3.1) :: (27, .int .i64 x1_3.2) :: (26, .int .i64 x1_3.1) :: (21, .tuple [.int .i64 x1_3.1, .int .i64 x1_3.2]) :: (25, .tuple [.int .i64 x1_3.1, .int .i64 x1_3.2]) :: E2)
   refine oR 7 (p' := g27p5) (eE := E3) (H' := (mkH [])) (by kernel_rfl) ?_
   refine oK [5, 6] (eE := [(5, .int .i64 x1_3.1), (6, .int .i64 x1_3.2)]) (by kernel_rfl) ?_
   refine oR 4 (p' := g27p7) (eE := [(29, .bool (decide (0 ≤ x1_3.1))), (28, .int .i64 x1_3.1), (5, .int .i64 x1_3.1), (6, .int .i64 x1_3.2)]) (H' := (mkH [])) (by kernel_rfl) ?_
   refine oS 29 (b := decide (0 ≤ x1_3.1)) (by kernel_rfl) (fun hb => ?_) (fun hb => ?_)
   ·let E4 : Env := [(4, .int .i64 (fW .i64 (x1_3.2 + 1))), (31, .int .i64 (fW .i64 (x1_3.2 + 1))), (30, .int .i64 x1_3.2), (29, .bool true), (29, .bool (decide (0 ≤ x1_3.1))), (28, .int .i64 x1_3.1), (5, .int .i64 x1_3.1), (6, .int .i64 x1_3.2)]
    refine oR 8 (p' := .fin) (eE := E4) (H' := (mkH [])) (by kernel_rfl) ?_
    exact oT (r := (fW .i64 (x1_3.2 + 1))) (xs := [.int .i64 (fW .i64 (x1_3.2 + 1))]) (v := .int .i64 (fW .i64 (x1_3.2 + 1))) (by kernel_rfl) (by kernel_rfl) (by kernel_rfl) (.pures (by kernel_rfl)) (by kernel_rfl)
   ·let E5 : Env := [(4, .int .i64 0), (29, .bool false), (29, .bool (decide (0 ≤ x1_3.1))), (28, .int .i64 x1_3.1), (5, .int .i64 x1_3.1), (6, .int .i64 x1_3.2)]
    refine oR 7 (p' := .fin) (eE := E5) (H' := (mkH [])) (by kernel_rfl) ?_
    exact oT (r := (0 : Int)) (xs := [.int .i64 0]) (v := .int .i64 0) (by kernel_rfl) (by kernel_rfl) (by kernel_rfl) (.pures (by kernel_rfl)) (by kernel_rfl)
  ·let E6 : Env := [(35, .int .i64 (fW .i64 (a1 + 1))), (34, .int .i64 a1), (33, .str a0), (20, .bool false), (0, .str a0), (1, .int .i64 a1), (20, .bool z3)]
   refine oR 7 (p' := (atN 3 (ctl1 g27p4))) (eE := E6) (H' := (mkH [])) (by kernel_rfl) ?_
   refine oC (fun (x2_3 : (Int × Int)) => .tuple [.int .i64 x2_3.1, .int .i64 x2_3.2]) (atN 4 (ctl1 g27p4)) (fun x2_3 => ((36, .tuple [.int .i64 x2_3.1, .int .i64 x2_3.2]) :: E6)) (fi := 32) (args := [.str a0, .int .i64 (fW .i64 (a1 + 1))]) (by kernel_rfl) (by kernel_rfl) (fun _ => by kernel_rfl) (fun r h => g32_ok k a0 (fW .i64 (a1 + 1)) r h) (fun _ => by kernel_rfl) (fun x2_3 hx2_3 => ?_)
   let E7 : Env := ((8, .int .i64 x2_3.2) :: (7, .int .i64 x2_3.1) :: (38, .int .i64 x2_3.2) :: (37, .int .i64 x2_3.1) :: (32, .tuple [.int .i64 x2_3.1, .int .i64 x2_3.2]) :: (36, .tuple [.int .i64 x2_3.1, .int .i64 x2_3.2]) :: E6)
   refine oR 8 (p' := g27p6) (eE := E7) (H' := (mkH [])) (by kernel_rfl) ?_
   refine oK [7, 8] (eE := [(7, .int .i64 x2_3.1), (8, .int .i64 x2_3.2)]) (by kernel_rfl) ?_
   let E8 : Env := [(41, .bool (decide (x2_3.1 ≤ 32))), (40, .bool (decide (x2_3.1 ≤ 32))), (39, .int .i64 x2_3.1), (7, .int .i64 x2_3.1), (8, .int .i64 x2_3.2)]
   refine oR 4 (p' := (atN 3 (ctl1 g27p6))) (eE := E8) (H' := (mkH [])) (by kernel_rfl) ?_
   refine oJ (f := fun (z4 : Bool) => if z4 then (some (0 : Int)) else (some (fW .i64 (x2_3.2 + 1)))) g27p8 (fun (z4 : Bool) => [(8, .int .i64 x2_3.2), (44, .bool z4)]) (fun (z4 : Bool) => (mkH [])) (fun z4 => ?_) (fun j4 hj4 => ?_)
   ·refine oS 44 (b := z4) (by kernel_rfl) (fun hb => ?_) (fun hb => ?_)
    ·refine oR 6 (p' := .fin) (eE := [(4, .int .i64 0), (44, .bool true), (8, .int .i64 x2_3.2), (44, .bool z4)]) (H' := (mkH [])) (by kernel_rfl) ?_
     exact oT (r := (0 : Int)) (xs := [.int .i64 0]) (v := .int .i64 0) (by kernel_rfl) (by kernel_rfl) (by kernel_rfl) (.pures (by kernel_rfl)) (by kernel_rfl)
    ·let E9 : Env := [(4, .int .i64 (fW .i64 (x2_3.2 + 1))), (46, .int .i64 (fW .i64 (x2_3.2 + 1))), (45, .int .i64 x2_3.2), (44, .bool false), (8, .int .i64 x2_3.2), (44, .bool z4)]
     refine oR 9 (p' := .fin) (eE := E9) (H' := (mkH [])) (by kernel_rfl) ?_
     exact oT (r := (fW .i64 (x2_3.2 + 1))) (xs := [.int .i64 (fW .i64 (x2_3.2 + 1))]) (v := .int .i64 (fW .i64 (x2_3.2 + 1))) (by kernel_rfl) (by kernel_rfl) (by kernel_rfl) (.pures (by kernel_rfl)) (by kernel_rfl)
   ·refine oS 41 (b := decide (x2_3.1 ≤ 32)) (by kernel_rfl) (fun hb => ?_) (fun hb => ?_)
    ·refine oR 4 (p' := g27p8) (eE := ((44, .bool true) :: (43, .tuple []) :: (42, .tuple []) :: (41, .bool true) :: E8)) (H' := (mkH [])) (by kernel_rfl) ?_
     refine oK [8, 44] (eE := [(8, .int .i64 x2_3.2), (44, .bool true)]) (by kernel_rfl) ?_
     exact hj4 true
    ·refine oR 4 (p' := g27p8) (eE := ((44, .bool (decide (x2_3.1 = 127))) :: (43, .bool (decide (x2_3.1 = 127))) :: (42, .int .i64 x2_3.1) :: (41, .bool false) :: E8)) (H' := (mkH [])) (by kernel_rfl) ?_
     refine oK [8, 44] (eE := [(8, .int .i64 x2_3.2), (44, .bool (decide (x2_3.1 = 127)))]) (by kernel_rfl) ?_
     exact hj4 (decide (x2_3.1 = 127))
 ·refine oS 14 (b := decide (fW .i64 (a1 + 1) < (a0.length : Int))) (by kernel_rfl) (fun hb => ?_) (fun hb => ?_)
  ·refine oR 3 (p' := (atN 9 (ctl1 g27p1))) (eE := ((17, .int .i64 (fW .i64 (a1 + 1))) :: (16, .int .i64 a1) :: (15, .str a0) :: (14, .bool true) :: E1)) (H' := (mkH [])) (by kernel_rfl) ?_
   refine oH (fun (x0_9 : Int) => (.int .u8 x0_9, (mkH []))) (atN 10 (ctl1 g27p1)) (fun x0_9 => ((18, .int .u8 x0_9) :: (17, .int .i64 (fW .i64 (a1 + 1))) :: (16, .int .i64 a1) :: (15, .str a0) :: (14, .bool true) :: E1)) (idxH (by kernel_rfl)) (fun _ => by kernel_rfl) (fun x0_9 hx0_9 => ?_)
   let E10 : Env := ((20, .bool (decide (x0_9 = 92))) :: (19, .bool (decide (x0_9 = 92))) :: (18, .int .u8 x0_9) :: (17, .int .i64 (fW .i64 (a1 + 1))) :: (16, .int .i64 a1) :: (15, .str a0) :: (14, .bool true) :: E1)
   refine oR 3 (p' := g27p2) (eE := E10) (H' := (mkH [])) (by kernel_rfl) ?_
   refine oK [0, 1, 20] (eE := [(0, .str a0), (1, .int .i64 a1), (20, .bool (decide (x0_9 = 92)))]) (by kernel_rfl) ?_
   exact hj3 (decide (x0_9 = 92))
  ·let E11 : Env := ((20, .bool false) :: (19, .tuple []) :: (18, .tuple []) :: (17, .tuple []) :: (16, .tuple []) :: (15, .tuple []) :: (14, .bool false) :: E1)
   refine oR 7 (p' := g27p2) (eE := E11) (H' := (mkH [])) (by kernel_rfl) ?_
   refine oK [0, 1, 20] (eE := [(0, .str a0), (1, .int .i64 a1), (20, .bool false)]) (by kernel_rfl) ?_
   exact hj3 false
end
end Go.Proofs.Ytokcjgjgojlhbaa.Am
set_option maxRecDepth 100000
set_option linter.unusedVariables false
namespace Go.Proofs.Ytokcjgjgojlhbaa.Am
noncomputable section
open Go
def X15 : Fx (S28 × Int) := ⟨Try.prog, cx, Try.f15, fun r => .tuple [.agg [.int .i64 r.1.f0, .str r.1.f1, .int .i64 r.1.f2], .int .i64 r.2], 0, fun _ => H0, cxTi, cxOrd⟩
def g15p0 : Pt := nav [0] (bodyAt Try.f15)
def g15p1 : Pt := nav [0, 0, 0, 0] g15p0
def g15p2 : Pt := nav [0, 0] g15p1
def g15p4 : Pt := nav [2, 0, 0] g15p2
def g15p6 : Pt := nav [0, 0, 0] g15p4
def g15p7 : Pt := nav [0, 0, 0, 0, 0] g15p6
def g15p8 : Pt := nav [0, 0] g15p7
def g15p9 : Pt := nav [1, 0] g15p8
def g15p10 : Pt := nav [2, 0] g15p8
def g15p11 : Pt := nav [0, 0, 0, 0, 0] g15p9
def g15p12 : Pt := nav [0, 0] g15p10
def g15p13 : Pt := nav [0, 0, 0] g15p11
def g15p14 : Pt := nav [1] g15p12
def g15p15 : Pt := nav [2, 0] g15p12
def g15p16 : Pt := nav [0, 0] g15p13
def g15p17 : Pt := nav [0, 0, 0, 0] g15p14
def g15p18 : Pt := nav [0, 0] g15p15
def g15p20 : Pt := nav [2, 0, 0] g15p16
def g15p21 : Pt := nav [0, 0] g15p17
def g15p22 : Pt := nav [1, 0] g15p18
def g15p23 : Pt := nav [2, 0] g15p18
def g15p25 : Pt := nav [2, 0, 0] g15p21
def g15p26 : Pt := nav [0, 0] g15p23
def g15p27 : Pt := nav [1, 0] g15p26
def g15p28 : Pt := nav [2, 0] g15p26
def g15p29 : Pt := nav [0, 0, 0] g15p27
def g15p30 : Pt := nav [0, 0] g15p28
def g15p31 : Pt := nav [0, 0] g15p29
def g15p32 : Pt := nav [1] g15p30
def g15p33 : Pt := nav [2, 0] g15p30
def g15p35 : Pt := nav [0, 0] g15p33
def g15p36 : Pt := nav [1] g15p35
def g15p37 : Pt := nav [2, 0] g15p35
def g15p38 : Pt := nav [0, 0] g15p37
def g15p39 : Pt := nav [1] g15p38
def g15p40 : Pt := nav [2, 0] g15p38
def g15p41 : Pt := nav [0, 0] g15p40
def g15p42 : Pt := nav [1, 0] g15p41
def g15p43 : Pt := nav [2] g15p41
def g15p44 : Pt := nav [0, 0, 0, 0] g15p42
def g15p45 : Pt := nav [0, 0] g15p44
def g15p47 : Pt := nav [2, 0, 0] g15p45
def g15p48 : Pt := nav [0, 0] g15p47
def g15p49 : Pt := nav [1] g15p48
def g15_l18 (k : Nat)  (a0 : (List Nat)) (a1 : Int) (n : Nat) : Int → Option (S28 × Int) :=
 Nat.rec (motive := fun _ => Int → Option (S28 × Int)) (fun _ => none) (fun _ ih => fun (y18_0 : Int) => jn (fun (z24 : Bool × Int) => if z24.1 then (ih (fW .i64 (z24.2 + 1))) else ((subL a0 (some a1) (some z24.2)).bind fun x16_3 => (g21 k x16_3).bind fun x16_4 => some ((⟨(11 : Int), x16_4, a1⟩ : S28), (0 : Int)))) (fun j24 => if (decide (y18_0 < (a0.length : Int))) then ((nthS a0 y18_0).bind fun x15_7 => j24 (!decide (x15_7 = 10), y18_0)) else (j24 (false, y18_0)))) n
theorem g15_l18_s (k : Nat)  (a0 : (List Nat)) (a1 : Int) (n : Nat) (y18_0 : Int) : g15_l18 k a0 a1 (n + 1) y18_0 = (jn (fun (z24 : Bool × Int) => if z24.1 then ((g15_l18 k a0 a1 n) (fW .i64 (z24.2 + 1))) else ((subL a0 (some a1) (some z24.2)).bind fun x16_3 => (g21 k x16_3).bind fun x16_4 => some ((⟨(11 : Int), x16_4, a1⟩ : S28), (0 : Int)))) (fun j24 => if (decide (y18_0 < (a0.length : Int))) then ((nthS a0 y18_0).bind fun x15_7 => j24 (!decide (x15_7 = 10), y18_0)) else (j24 (false, y18_0)))) := rfl
theorem g15_l18_ok (k : Nat)  (a0 : (List Nat)) (a1 : Int)  : ∀ (n : Nat) (y18_0 : Int), Ok X15 g15p11 [(0, .str a0), (1, .int .i64 a1), (4, .ptr 0 3 0), (9, .int .i64 y18_0)] (mkH [⟨[.int .i64 0, .str [], .int .i64 0], 0, false⟩]) (g15_l18 k a0 a1 n y18_0)
 | 0, _ => ok_none
 | n + 1, y18_0 => by
  have ih := g15_l18_ok k a0 a1 n
  rw [g15_l18_s]
  refine ok_ent (p' := nav [0] g15p11) (by kernel_rfl) ?_
  let E6 : Env := [(34, .bool (decide (y18_0 < (a0.length : Int)))), (33, .bool (decide (y18_0 < (a0.length : Int)))), (32, .int .i64 (a0.length : Int)), (31, .str a0), (30, .int .i64 y18_0), (0, .str a0), (1, .int .i64 a1), (4, .ptr 0 3 0), (9, .int .i64 y18_0)]
  refine oR 8 (p' := (atN 5 (ctl1 g15p13))) (eE := E6) (H' := (mkH [⟨[.int .i64 0, .str [], .int .i64 0], 0, false⟩])) (by kernel_rfl) ?_
  refine oJ (f := fun (z24 : Bool × Int) => if z24.1 then ((g15_l18 k a0 a1 n) (fW .i64 (z24.2 + 1))) else ((subL a0 (some a1) (some z24.2)).bind fun x16_3 => (g21 k x16_3).bind fun x16_4 => some ((⟨(11 : Int), x16_4, a1⟩ : S28), (0 : Int)))) g15p16 (fun (z24 : Bool × Int) => [(0, .str a0), (1, .int .i64 a1), (4, .ptr 0 3 0), (9, .int .i64 z24.2), (39, .bool z24.1)]) (fun (z24 : Bool × Int) => (mkH [⟨[.int .i64 0, .str [], .int .i64 0], 0, false⟩])) (fun z24 => ?_) (fun j24 hj24 => ?_)
  ·refine oS 39 (b := z24.1) (by kernel_rfl) (fun hb => ?_) (fun hb => ?_)
   ·let E7 : Env := [(9, .int .i64 (fW .i64 (z24.2 + 1))), (41, .int .i64 (fW .i64 (z24.2 + 1))), (40, .int .i64 z24.2), (39, .bool true), (0, .str a0), (1, .int .i64 a1), (4, .ptr 0 3 0), (9, .int .i64 z24.2), (39, .bool z24.1)]
    refine oR 8 (p' := g15p11) (eE := E7) (H' := (mkH [⟨[.int .i64 0, .str [], .int .i64 0], 0, false⟩])) (by kernel_rfl) ?_
    refine oK [0, 1, 4, 9] (eE := [(0, .str a0), (1, .int .i64 a1), (4, .ptr 0 3 0), (9, .int .i64 (fW .i64 (z24.2 + 1)))]) (by kernel_rfl) ?_
    exact ih (fW .i64 (z24.2 + 1))
   ·let E8 : Env := [(44, .int .i64 z24.2), (43, .int .i64 a1), (42, .str a0), (39, .bool false), (0, .str a0), (1, .int .i64 a1), (4, .ptr 0 3 0), (9, .int .i64 z24.2), (39, .bool z24.1)]
    refine oR 7 (p' := (atN 3 (ctl1 g15p20))) (eE := E8) (H' := (mkH [⟨[.int .i64 0, .str [], .int .i64 0], 0, false⟩])) (by kernel_rfl) ?_
    refine oH (fun (x16_3 : (List Nat)) => (.str x16_3, (mkH [⟨[.int .i64 0, .str [], .int .i64 0], 0, false⟩]))) (atN 4 (ctl1 g15p20)) (fun x16_3 => ((45, .str x16_3) :: E8)) (subH (some a1) (some z24.2) (by kernel_rfl)) (fun _ => by kernel_rfl) (fun x16_3 hx16_3 => ?_)
    refine oC (fun (x16_4 : (List Nat)) => .str x16_4) (atN 5 (ctl1 g15p20)) (fun x16_4 => ((46, .str x16_4) :: (45, .str x16_3) :: E8)) (fi := 21) (args := [.str x16_3]) (by kernel_rfl) (by kernel_rfl) (fun _ => by kernel_rfl) (fun r h => g21_ok k x16_3 r h) (fun _ => by kernel_rfl) (fun x16_4 hx16_4 => ?_)
    let E9 : Env := ((5, .int .i64 0) :: (48, .agg [.int .i64 11, .str x16_4, .int .i64 a1]) :: (47, .int .i64 a1) :: (46, .str x16_4) :: (45, .str x16_3) :: E8)
    refine oR 6 (p' := .fin) (eE := E9) (H' := (mkH [⟨[.int .i64 11, .str x16_4, .int .i64 a1], 3, false⟩])) (by kernel_rfl) ?_
    exact oT (r := ((⟨(11 : Int), x16_4, a1⟩ : S28), (0 : Int))) (xs := [.agg [.int .i64 11, .str x16_4, .int .i64 a1], .int .i64 0]) (v := .tuple [.agg [.int .i64 11, .str x16_4, .int .i64 a1], .int .i64 0]) (by kernel_rfl) (by kernel_rfl) (by kernel_rfl) (.pures (by kernel_rfl)) (by kernel_rfl)
  ·refine oS 34 (b := decide (y18_0 < (a0.length : Int))) (by kernel_rfl) (fun hb => ?_) (fun hb => ?_)
   ·refine oR 2 (p' := (atN 7 (ctl1 g15p13))) (eE := ((36, .int .i64 y18_0) :: (35, .str a0) :: (34, .bool true) :: E6)) (H' := (mkH [⟨[.int .i64 0, .str [], .int .i64 0], 0, false⟩])) (by kernel_rfl) ?_
    refine oH (fun (x15_7 : Int) => (.int .u8 x15_7, (mkH [⟨[.int .i64 0, .str [], .int .i64 0], 0, false⟩]))) (atN 8 (ctl1 g15p13)) (fun x15_7 => ((37, .int .u8 x15_7) :: (36, .int .i64 y18_0) :: (35, .str a0) :: (34, .bool true) :: E6)) (idxH (by kernel_rfl)) (fun _ => by kernel_rfl) (fun x15_7 hx15_7 => ?_)
    let E10 : Env := ((39, .bool (!decide (x15_7 = 10))) :: (38, .bool (!decide (x15_7 = 10))) :: (37, .int .u8 x15_7) :: (36, .int .i64 y18_0) :: (35, .str a0) :: (34, .bool true) :: E6)
    refine oR 3 (p' := g15p16) (eE := E10) (H' := (mkH [⟨[.int .i64 0, .str [], .int .i64 0], 0, false⟩])) (by kernel_rfl) ?_
    refine oK [0, 1, 4, 9, 39] (eE := [(0, .str a0), (1, .int .i64 a1), (4, .ptr 0 3 0), (9, .int .i64 y18_0), (39, .bool (!decide (x15_7 = 10)))]) (by kernel_rfl) ?_
    exact hj24 (!decide (x15_7 = 10), y18_0)
   ·let E11 : Env := ((39, .bool false) :: (38, .tuple []) :: (37, .tuple []) :: (36, .tuple []) :: (35, .tuple []) :: (34, .bool false) :: E6)
    refine oR 6 (p' := g15p16) (eE := E11) (H' := (mkH [⟨[.int .i64 0, .str [], .int .i64 0], 0, false⟩])) (by kernel_rfl) ?_
    refine oK [0, 1, 4, 9, 39] (eE := [(0, .str a0), (1, .int .i64 a1), (4, .ptr 0 3 0), (9, .int .i64 y18_0), (39, .bool false)]) (by kernel_rfl) ?_
    exact hj24 (false, y18_0)
end
end Go.Proofs.Ytokcjgjgojlhbaa.Am
