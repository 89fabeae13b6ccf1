/- LawLitEscapes, part 3: whatever the input, the law comes out true: our texts, joined by a tool, without what the claim does not name. -/
import Derived.Test.YtabhkocokojddaaPkLitEscapes2
set_option maxRecDepth 100000
set_option linter.unusedVariables false
namespace Go.Proofs.Ytabhkocokojddaa.Am
noncomputable section
open Go
theorem g79_l6_ok (k : Nat)  (a0 : (List Nat)) (a1 : Int) (z5 : Int × Int × Int)  : ∀ (n : Nat) (y6_0 : Int) (y6_1 : Int), Ok X79 g79p6 [(0, .str a0), (1, .int .i64 a1), (6, .int .i64 z5.1), (7, .int .i64 z5.2.1), (8, .int .i64 z5.2.2), (9, .int .i64 y6_0), (10, .int .i64 y6_1)] (mkH []) (g79_l6 k a0 a1 z5 n y6_0 y6_1)
 | 0, _, _ => ok_none
 | n + 1, y6_0, y6_1 => by
  have ih := g79_l6_ok k a0 a1 z5 n
  rw [g79_l6_s]
  refine ok_ent (p' := nav [0] g79p6) (by kernel_rfl) ?_
  let E3 : Env := [(29, .bool (decide (y6_1 < z5.2.1))), (28, .bool (decide (y6_1 < z5.2.1))), (27, .int .i64 z5.2.1), (26, .int .i64 y6_1), (0, .str a0), (1, .int .i64 a1), (6, .int .i64 z5.1), (7, .int .i64 z5.2.1), (8, .int .i64 z5.2.2), (9, .int .i64 y6_0), (10, .int .i64 y6_1)]
  refine oR 7 (p' := (atN 4 (ctl1 g79p7))) (eE := E3) (H' := (mkH [])) (by kernel_rfl) ?_
  refine oJ (f := fun (z7 : Bool × Int × Int) => if z7.1 then ((nthS a0 (fW .i64 (z5.1 + z7.2.2))).bind fun x2_6 => (g75 k x2_6).bind fun x2_7 => (g79_l6 k a0 a1 z5 n) (orI .i64 (shlC .i64 z7.2.1 4) x2_7) (fW .i64 (z7.2.2 + 1))) else (jn (fun (z8 : Int × Int × Bool) => if z8.2.2 then (some (((-1) : Int), (0 : Int))) else (some (z8.1, fW .i64 (fW .i64 (z8.2.1 + z5.2.2) - a1)))) (fun j8 => if (decide (z5.2.2 = 0)) then (if (decide (z7.2.2 < 2)) then (j8 (z7.2.1, fW .i64 (z5.1 + z7.2.2), true)) else (if (decide (z7.2.2 < 1)) then (j8 (z7.2.1, fW .i64 (z5.1 + z7.2.2), true)) else (if (decide (z5.2.2 = 1)) then (if (decide ((a0.length : Int) ≤ fW .i64 (z5.1 + z7.2.2))) then (j8 (z7.2.1, fW .i64 (z5.1 + z7.2.2), true)) else ((nthS a0 (fW .i64 (z5.1 + z7.2.2))).bind fun x3_21 => if (!decide (x3_21 = 125)) then (j8 (z7.2.1, fW .i64 (z5.1 + z7.2.2), true)) else ((g94 k z7.2.1).bind fun x3_28 => j8 (z7.2.1, fW .i64 (z5.1 + z7.2.2), eqL x3_28 [])))) else ((g94 k z7.2.1).bind fun x3_28 => j8 (z7.2.1, fW .i64 (z5.1 + z7.2.2), eqL x3_28 []))))) else (if (decide (z7.2.2 < 1)) then (j8 (z7.2.1, fW .i64 (z5.1 + z7.2.2), true)) else (if (decide (z5.2.2 = 1)) then (if (decide ((a0.length : Int) ≤ fW .i64 (z5.1 + z7.2.2))) then (j8 (z7.2.1, fW .i64 (z5.1 + z7.2.2), true)) else ((nthS a0 (fW .i64 (z5.1 + z7.2.2))).bind fun x3_21 => if (!decide (x3_21 = 125)) then (j8 (z7.2.1, fW .i64 (z5.1 + z7.2.2), true)) else ((g94 k z7.2.1).bind fun x3_28 => j8 (z7.2.1, fW .i64 (z5.1 + z7.2.2), eqL x3_28 [])))) else ((g94 k z7.2.1).bind fun x3_28 => j8 (z7.2.1, fW .i64 (z5.1 + z7.2.2), eqL x3_28 []))))))) g79p8 (fun (z7 : Bool × Int × Int) => [(0, .str a0), (1, .int .i64 a1), (6, .int .i64 z5.1), (7, .int .i64 z5.2.1), (8, .int .i64 z5.2.2), (9, .int .i64 z7.2.1), (10, .int .i64 z7.2.2), (45, .bool z7.1)]) (fun (z7 : Bool × Int × Int) => (mkH [])) (fun z7 => ?_) (fun j7 hj7 => ?_)
  ·refine oS 45 (b := z7.1) (by kernel_rfl) (fun hb => ?_) (fun hb => ?_)
   ·let E4 : Env := [(51, .int .i64 (fW .i64 (z5.1 + z7.2.2))), (50, .int .i64 z7.2.2), (49, .int .i64 z5.1), (48, .str a0), (47, .int .i64 (shlC .i64 z7.2.1 4)), (46, .int .i64 z7.2.1), (45, .bool true), (0, .str a0), (1, .int .i64 a1), (6, .int .i64 z5.1), (7, .int .i64 z5.2.1), (8, .int .i64 z5.2.2), (9, .int .i64 z7.2.1), (10, .int .i64 z7.2.2), (45, .bool z7.1)]
    refine oR 11 (p' := (atN 6 (ctl1 g79p9))) (eE := E4) (H' := (mkH [])) (by kernel_rfl) ?_
    refine oH (fun (x2_6 : Int) => (.int .u8 x2_6, (mkH []))) (atN 7 (ctl1 g79p9)) (fun x2_6 => ((52, .int .u8 x2_6) :: E4)) (idxH (by kernel_rfl)) (fun _ => by kernel_rfl) (fun x2_6 hx2_6 => ?_)
    refine oC (fun (x2_7 : Int) => .int .i64 x2_7) (atN 8 (ctl1 g79p9)) (fun x2_7 => ((53, .int .i64 x2_7) :: (52, .int .u8 x2_6) :: E4)) (fi := 75) (args := [.int .u8 x2_6]) (by kernel_rfl) (by kernel_rfl) (fun _ => by kernel_rfl) (fun r h => g75_ok k x2_6 r h) (fun _ => by kernel_rfl) (fun x2_7 hx2_7 => ?_)
    refine oR 3 (p' := g79p11) (eE := ((9, .int .i64 (orI .i64 (shlC .i64 z7.2.1 4) x2_7)) :: (54, .int .i64 (orI .i64 (shlC .i64 z7.2.1 4) x2_7)) :: (53, .int .i64 x2_7) :: (52, .int .u8 x2_6) :: E4)) (H' := (mkH [])) (by kernel_rfl) ?_
    refine oK [0, 1, 6, 7, 8, 9, 10] (eE := [(0, .str a0), (1, .int .i64 a1), (6, .int .i64 z5.1), (7, .int .i64 z5.2.1), (8, .int .i64 z5.2.2), (9, .int .i64 (orI .i64 (shlC .i64 z7.2.1 4) x2_7)), (10, .int .i64 z7.2.2)]) (by kernel_rfl) ?_
    let E5 : Env := [(10, .int .i64 (fW .i64 (z7.2.2 + 1))), (56, .int .i64 (fW .i64 (z7.2.2 + 1))), (55, .int .i64 z7.2.2), (0, .str a0), (1, .int .i64 a1), (6, .int .i64 z5.1), (7, .int .i64 z5.2.1), (8, .int .i64 z5.2.2), (9, .int .i64 (orI .i64 (shlC .i64 z7.2.1 4) x2_7)), (10, .int .i64 z7.2.2)]
    refine oR 5 (p' := g79p6) (eE := E5) (H' := (mkH [])) (by kernel_rfl) ?_
    refine oK [0, 1, 6, 7, 8, 9, 10] (eE := [(0, .str a0), (1, .int .i64 a1), (6, .int .i64 z5.1), (7, .int .i64 z5.2.1), (8, .int .i64 z5.2.2), (9, .int .i64 (orI .i64 (shlC .i64 z7.2.1 4) x2_7)), (10, .int .i64 (fW .i64 (z7.2.2 + 1)))]) (by kernel_rfl) ?_
    exact ih (orI .i64 (shlC .i64 z7.2.1 4) x2_7) (fW .i64 (z7.2.2 + 1))
   ·let E6 : Env := [(11, .int .i64 (fW .i64 (z5.1 + z7.2.2))), (59, .int .i64 (fW .i64 (z5.1 + z7.2.2))), (58, .int .i64 z7.2.2), (57, .int .i64 z5.1), (45, .bool false), (0, .str a0), (1, .int .i64 a1), (6, .int .i64 z5.1), (7, .int .i64 z5.2.1), (8, .int .i64 z5.2.2), (9, .int .i64 z7.2.1), (10, .int .i64 z7.2.2), (45, .bool z7.1)]
    refine oR 11 (p' := g79p12) (eE := E6) (H' := (mkH [])) (by kernel_rfl) ?_
    refine oK [0, 1, 8, 9, 10, 11] (eE := [(0, .str a0), (1, .int .i64 a1), (8, .int .i64 z5.2.2), (9, .int .i64 z7.2.1), (10, .int .i64 z7.2.2), (11, .int .i64 (fW .i64 (z5.1 + z7.2.2)))]) (by kernel_rfl) ?_
    let E7 : Env := [(62, .bool (decide (z5.2.2 = 0))), (61, .bool (decide (z5.2.2 = 0))), (60, .int .i64 z5.2.2), (0, .str a0), (1, .int .i64 a1), (8, .int .i64 z5.2.2), (9, .int .i64 z7.2.1), (10, .int .i64 z7.2.2), (11, .int .i64 (fW .i64 (z5.1 + z7.2.2)))]
    refine oR 4 (p' := (atN 3 (ctl1 g79p12))) (eE := E7) (H' := (mkH [])) (by kernel_rfl) ?_
    refine oJ (f := fun (z8 : Int × Int × Bool) => if z8.2.2 then (some (((-1) : Int), (0 : Int))) else (some (z8.1, fW .i64 (fW .i64 (z8.2.1 + z5.2.2) - a1)))) g79p13 (fun (z8 : Int × Int × Bool) => [(1, .int .i64 a1), (8, .int .i64 z5.2.2), (9, .int .i64 z8.1), (11, .int .i64 z8.2.1), (90, .bool z8.2.2)]) (fun (z8 : Int × Int × Bool) => (mkH [])) (fun z8 => ?_) (fun j8 hj8 => ?_)
    ·refine oS 90 (b := z8.2.2) (by kernel_rfl) (fun hb => ?_) (fun hb => ?_)
     ·let E8 : Env := [(5, .int .i64 0), (4, .int .i64 (-1)), (90, .bool true), (1, .int .i64 a1), (8, .int .i64 z5.2.2), (9, .int .i64 z8.1), (11, .int .i64 z8.2.1), (90, .bool z8.2.2)]
      refine oR 7 (p' := .fin) (eE := E8) (H' := (mkH [])) (by kernel_rfl) ?_
      exact oT (r := (((-1) : Int), (0 : Int))) (xs := [.int .i64 (-1), .int .i64 0]) (v := .tuple [.int .i64 (-1), .int .i64 0]) (by kernel_rfl) (by kernel_rfl) (by kernel_rfl) (.pures (by kernel_rfl)) (by kernel_rfl)
     ·let E9 : Env := [(5, .int .i64 (fW .i64 (fW .i64 (z8.2.1 + z5.2.2) - a1))), (4, .int .i64 z8.1), (96, .int .i64 (fW .i64 (fW .i64 (z8.2.1 + z5.2.2) - a1))), (95, .int .i64 a1), (94, .int .i64 (fW .i64 (z8.2.1 + z5.2.2))), (93, .int .i64 z5.2.2), (92, .int .i64 z8.2.1), (91, .int .i64 z8.1), (90, .bool false), (1, .int .i64 a1), (8, .int .i64 z5.2.2), (9, .int .i64 z8.1), (11, .int .i64 z8.2.1), (90, .bool z8.2.2)]
      refine oR 14 (p' := .fin) (eE := E9) (H' := (mkH [])) (by kernel_rfl) ?_
      exact oT (r := (z8.1, fW .i64 (fW .i64 (z8.2.1 + z5.2.2) - a1))) (xs := [.int .i64 z8.1, .int .i64 (fW .i64 (fW .i64 (z8.2.1 + z5.2.2) - a1))]) (v := .tuple [.int .i64 z8.1, .int .i64 (fW .i64 (fW .i64 (z8.2.1 + z5.2.2) - a1))]) (by kernel_rfl) (by kernel_rfl) (by kernel_rfl) (.pures (by kernel_rfl)) (by kernel_rfl)
    ·refine oS 62 (b := decide (z5.2.2 = 0)) (by kernel_rfl) (fun hb => ?_) (fun hb => ?_)
     ·let E10 : Env := ((66, .bool (decide (z7.2.2 < 2))) :: (65, .bool (decide (z7.2.2 < 2))) :: (64, .bool (decide (z7.2.2 < 2))) :: (63, .int .i64 z7.2.2) :: (62, .bool true) :: E7)
      refine oR 4 (p' := (atN 7 (ctl1 g79p12))) (eE := E10) (H' := (mkH [])) (by kernel_rfl) ?_
      refine oS 66 (b := decide (z7.2.2 < 2)) (by kernel_rfl) (fun hb => ?_) (fun hb => ?_)
      ·let E11 : Env := ((90, .bool true) :: (89, .tuple []) :: (88, .tuple []) :: (87, .tuple []) :: (86, .bool true) :: (85, .bool true) :: (84, .tuple []) :: (83, .tuple []) :: (82, .tuple []) :: (81, .tuple []) :: (80, .tuple []) :: (79, .tuple []) :: (78, .tuple []) :: (77, .tuple []) :: (76, .tuple []) :: (75, .tuple []) :: (74, .tuple []) :: (73, .tuple []) :: (72, .tuple []) :: (71, .tuple []) :: (70, .bool true) :: (69, .bool true) :: (68, .tuple []) :: (67, .tuple []) :: (66, .bool true) :: E10)
       refine oR 25 (p' := g79p13) (eE := E11) (H' := (mkH [])) (by kernel_rfl) ?_
       refine oK [1, 8, 9, 11, 90] (eE := [(1, .int .i64 a1), (8, .int .i64 z5.2.2), (9, .int .i64 z7.2.1), (11, .int .i64 (fW .i64 (z5.1 + z7.2.2))), (90, .bool true)]) (by kernel_rfl) ?_
       exact hj8 (z7.2.1, fW .i64 (z5.1 + z7.2.2), true)
      ·let E12 : Env := ((70, .bool (decide (z7.2.2 < 1))) :: (69, .bool (decide (z7.2.2 < 1))) :: (68, .bool (decide (z7.2.2 < 1))) :: (67, .int .i64 z7.2.2) :: (66, .bool false) :: E10)
       refine oR 4 (p' := (atN 11 (ctl1 g79p12))) (eE := E12) (H' := (mkH [])) (by kernel_rfl) ?_
       refine oS 70 (b := decide (z7.2.2 < 1)) (by kernel_rfl) (fun hb => ?_) (fun hb => ?_)
       ·let E13 : Env := ((90, .bool true) :: (89, .tuple []) :: (88, .tuple []) :: (87, .tuple []) :: (86, .bool true) :: (85, .bool true) :: (84, .tuple []) :: (83, .tuple []) :: (82, .tuple []) :: (81, .tuple []) :: (80, .tuple []) :: (79, .tuple []) :: (78, .tuple []) :: (77, .tuple []) :: (76, .tuple []) :: (75, .tuple []) :: (74, .tuple []) :: (73, .tuple []) :: (72, .tuple []) :: (71, .tuple []) :: (70, .bool true) :: E12)
        refine oR 21 (p' := g79p13) (eE := E13) (H' := (mkH [])) (by kernel_rfl) ?_
        refine oK [1, 8, 9, 11, 90] (eE := [(1, .int .i64 a1), (8, .int .i64 z5.2.2), (9, .int .i64 z7.2.1), (11, .int .i64 (fW .i64 (z5.1 + z7.2.2))), (90, .bool true)]) (by kernel_rfl) ?_
        exact hj8 (z7.2.1, fW .i64 (z5.1 + z7.2.2), true)
       ·refine oR 3 (p' := (atN 14 (ctl1 g79p12))) (eE := ((73, .bool (decide (z5.2.2 = 1))) :: (72, .bool (decide (z5.2.2 = 1))) :: (71, .int .i64 z5.2.2) :: (70, .bool false) :: E12)) (H' := (mkH [])) (by kernel_rfl) ?_
        refine oS 73 (b := decide (z5.2.2 = 1)) (by kernel_rfl) (fun hb => ?_) (fun hb => ?_)
        ·let E14 : Env := ((78, .bool (decide ((a0.length : Int) ≤ fW .i64 (z5.1 + z7.2.2)))) :: (77, .bool (decide ((a0.length : Int) ≤ fW .i64 (z5.1 + z7.2.2)))) :: (76, .int .i64 (a0.length : Int)) :: (75, .str a0) :: (74, .int .i64 (fW .i64 (z5.1 + z7.2.2))) :: (73, .bool true) :: (73, .bool (decide (z5.2.2 = 1))) :: (72, .bool (decide (z5.2.2 = 1))) :: (71, .int .i64 z5.2.2) :: (70, .bool false) :: E12)
         refine oR 5 (p' := (atN 19 (ctl1 g79p12))) (eE := E14) (H' := (mkH [])) (by kernel_rfl) ?_
         refine oS 78 (b := decide ((a0.length : Int) ≤ fW .i64 (z5.1 + z7.2.2))) (by kernel_rfl) (fun hb => ?_) (fun hb => ?_)
         ·let E15 : Env := ((90, .bool true) :: (89, .tuple []) :: (88, .tuple []) :: (87, .tuple []) :: (86, .bool true) :: (85, .bool true) :: (84, .bool true) :: (83, .bool true) :: (82, .tuple []) :: (81, .tuple []) :: (80, .tuple []) :: (79, .tuple []) :: (78, .bool true) :: E14)
          refine oR 13 (p' := g79p13) (eE := E15) (H' := (mkH [])) (by kernel_rfl) ?_
          refine oK [1, 8, 9, 11, 90] (eE := [(1, .int .i64 a1), (8, .int .i64 z5.2.2), (9, .int .i64 z7.2.1), (11, .int .i64 (fW .i64 (z5.1 + z7.2.2))), (90, .bool true)]) (by kernel_rfl) ?_
          exact hj8 (z7.2.1, fW .i64 (z5.1 + z7.2.2), true)
         ·refine oR 2 (p' := (atN 21 (ctl1 g79p12))) (eE := ((80, .int .i64 (fW .i64 (z5.1 + z7.2.2))) :: (79, .str a0) :: (78, .bool false) :: E14)) (H' := (mkH [])) (by kernel_rfl) ?_
          refine oH (fun (x3_21 : Int) => (.int .u8 x3_21, (mkH []))) (atN 22 (ctl1 g79p12)) (fun x3_21 => ((81, .int .u8 x3_21) :: (80, .int .i64 (fW .i64 (z5.1 + z7.2.2))) :: (79, .str a0) :: (78, .bool false) :: E14)) (idxH (by kernel_rfl)) (fun _ => by kernel_rfl) (fun x3_21 hx3_21 => ?_)
          let E16 : Env := ((86, .bool (!decide (x3_21 = 125))) :: (85, .bool (!decide (x3_21 = 125))) :: (84, .bool (!decide (x3_21 = 125))) :: (83, .bool (!decide (x3_21 = 125))) :: (82, .bool (!decide (x3_21 = 125))) :: (81, .int .u8 x3_21) :: (80, .int .i64 (fW .i64 (z5.1 + z7.2.2))) :: (79, .str a0) :: (78, .bool false) :: E14)
          refine oR 5 (p' := (atN 27 (ctl1 g79p12))) (eE := E16) (H' := (mkH [])) (by kernel_rfl) ?_
          refine oS 86 (b := !decide (x3_21 = 125)) (by kernel_rfl) (fun hb => ?_) (fun hb => ?_)
          ·let E17 : Env := ((90, .bool true) :: (89, .tuple []) :: (88, .tuple []) :: (87, .tuple []) :: (86, .bool true) :: E16)
           refine oR 5 (p' := g79p13) (eE := E17) (H' := (mkH [])) (by kernel_rfl) ?_
           refine oK [1, 8, 9, 11, 90] (eE := [(1, .int .i64 a1), (8, .int .i64 z5.2.2), (9, .int .i64 z7.2.1), (11, .int .i64 (fW .i64 (z5.1 + z7.2.2))), (90, .bool true)]) (by kernel_rfl) ?_
           exact hj8 (z7.2.1, fW .i64 (z5.1 + z7.2.2), true)
          ·refine oR 1 (p' := (atN 28 (ctl1 g79p12))) (eE := ((87, .int .i64 z7.2.1) :: (86, .bool false) :: E16)) (H' := (mkH [])) (by kernel_rfl) ?_
           refine oC (fun (x3_28 : (List Nat)) => .str x3_28) (atN 29 (ctl1 g79p12)) (fun x3_28 => ((88, .str x3_28) :: (87, .int .i64 z7.2.1) :: (86, .bool false) :: E16)) (fi := 94) (args := [.int .i64 z7.2.1]) (by kernel_rfl) (by kernel_rfl) (fun _ => by kernel_rfl) (fun r h => g94_ok k z7.2.1 r h) (fun _ => by kernel_rfl) (fun x3_28 hx3_28 => ?_)
           let E18 : Env := ((90, .bool (eqL x3_28 [])) :: (89, .bool (eqL x3_28 [])) :: (88, .str x3_28) :: (87, .int .i64 z7.2.1) :: (86, .bool false) :: E16)
           refine oR 3 (p' := g79p13) (eE := E18) (H' := (mkH [])) (by kernel_rfl) ?_
           refine oK [1, 8, 9, 11, 90] (eE := [(1, .int .i64 a1), (8, .int .i64 z5.2.2), (9, .int .i64 z7.2.1), (11, .int .i64 (fW .i64 (z5.1 + z7.2.2))), (90, .bool (eqL x3_28 []))]) (by kernel_rfl) ?_
           exact hj8 (z7.2.1, fW .i64 (z5.1 + z7.2.2), eqL x3_28 [])
        ·let E19 : Env := ((87, .int .i64 z7.2.1) :: (86, .bool false) :: (85, .bool false) :: (84, .bool false) :: (83, .tuple []) :: (82, .tuple []) :: (81, .tuple []) :: (80, .tuple []) :: (79, .tuple []) :: (78, .tuple []) :: (77, .tuple []) :: (76, .tuple []) :: (75, .tuple []) :: (74, .tuple []) :: (73, .bool false) :: (73, .bool (decide (z5.2.2 = 1))) :: (72, .bool (decide (z5.2.2 = 1))) :: (71, .int .i64 z5.2.2) :: (70, .bool false) :: E12)
         refine oR 14 (p' := (atN 28 (ctl1 g79p12))) (eE := E19) (H' := (mkH [])) (by kernel_rfl) ?_
         refine oC (fun (x3_28 : (List Nat)) => .str x3_28) (atN 29 (ctl1 g79p12)) (fun x3_28 => ((88, .str x3_28) :: E19)) (fi := 94) (args := [.int .i64 z7.2.1]) (by kernel_rfl) (by kernel_rfl) (fun _ => by kernel_rfl) (fun r h => g94_ok k z7.2.1 r h) (fun _ => by kernel_rfl) (fun x3_28 hx3_28 => ?_)
         refine oR 3 (p' := g79p13) (eE := ((90, .bool (eqL x3_28 [])) :: (89, .bool (eqL x3_28 [])) :: (88, .str x3_28) :: E19)) (H' := (mkH [])) (by kernel_rfl) ?_
         refine oK [1, 8, 9, 11, 90] (eE := [(1, .int .i64 a1), (8, .int .i64 z5.2.2), (9, .int .i64 z7.2.1), (11, .int .i64 (fW .i64 (z5.1 + z7.2.2))), (90, .bool (eqL x3_28 []))]) (by kernel_rfl) ?_
         exact hj8 (z7.2.1, fW .i64 (z5.1 + z7.2.2), eqL x3_28 [])
     ·let E20 : Env := ((70, .bool (decide (z7.2.2 < 1))) :: (69, .bool (decide (z7.2.2 < 1))) :: (68, .bool (decide (z7.2.2 < 1))) :: (67, .int .i64 z7.2.2) :: (66, .bool false) :: (65, .bool false) :: (64, .tuple []) :: (63, .tuple []) :: (62, .bool false) :: E7)
      refine oR 8 (p' := (atN 11 (ctl1 g79p12))) (eE := E20) (H' := (mkH [])) (by kernel_rfl) ?_
      refine oS 70 (b := decide (z7.2.2 < 1)) (by kernel_rfl) (fun hb => ?_) (fun hb => ?_)
      ·let E21 : Env := ((90, .bool true) :: (89, .tuple []) :: (88, .tuple []) :: (87, .tuple []) :: (86, .bool true) :: (85, .bool true) :: (84, .tuple []) :: (83, .tuple []) :: (82, .tuple []) :: (81, .tuple []) :: (80, .tuple []) :: (79, .tuple []) :: (78, .tuple []) :: (77, .tuple []) :: (76, .tuple []) :: (75, .tuple []) :: (74, .tuple []) :: (73, .tuple []) :: (72, .tuple []) :: (71, .tuple []) :: (70, .bool true) :: E20)
       refine oR 21 (p' := g79p13) (eE := E21) (H' := (mkH [])) (by kernel_rfl) ?_
       refine oK [1, 8, 9, 11, 90] (eE := [(1, .int .i64 a1), (8, .int .i64 z5.2.2), (9, .int .i64 z7.2.1), (11, .int .i64 (fW .i64 (z5.1 + z7.2.2))), (90, .bool true)]) (by kernel_rfl) ?_
       exact hj8 (z7.2.1, fW .i64 (z5.1 + z7.2.2), true)
      ·refine oR 3 (p' := (atN 14 (ctl1 g79p12))) (eE := ((73, .bool (decide (z5.2.2 = 1))) :: (72, .bool (decide (z5.2.2 = 1))) :: (71, .int .i64 z5.2.2) :: (70, .bool false) :: E20)) (H' := (mkH [])) (by kernel_rfl) ?_
       refine oS 73 (b := decide (z5.2.2 = 1)) (by kernel_rfl) (fun hb => ?_) (fun hb => ?_)
       ·let E22 : Env := ((78, .bool (decide ((a0.length : Int) ≤ fW .i64 (z5.1 + z7.2.2)))) :: (77, .bool (decide ((a0.length : Int) ≤ fW .i64 (z5.1 + z7.2.2)))) :: (76, .int .i64 (a0.length : Int)) :: (75, .str a0) :: (74, .int .i64 (fW .i64 (z5.1 + z7.2.2))) :: (73, .bool true) :: (73, .bool (decide (z5.2.2 = 1))) :: (72, .bool (decide (z5.2.2 = 1))) :: (71, .int .i64 z5.2.2) :: (70, .bool false) :: E20)
        refine oR 5 (p' := (atN 19 (ctl1 g79p12))) (eE := E22) (H' := (mkH [])) (by kernel_rfl) ?_
        refine oS 78 (b := decide ((a0.length : Int) ≤ fW .i64 (z5.1 + z7.2.2))) (by kernel_rfl) (fun hb => ?_) (fun hb => ?_)
        ·let E23 : Env := ((90, .bool true) :: (89, .tuple []) :: (88, .tuple []) :: (87, .tuple []) :: (86, .bool true) :: (85, .bool true) :: (84, .bool true) :: (83, .bool true) :: (82, .tuple []) :: (81, .tuple []) :: (80, .tuple []) :: (79, .tuple []) :: (78, .bool true) :: E22)
         refine oR 13 (p' := g79p13) (eE := E23) (H' := (mkH [])) (by kernel_rfl) ?_
         refine oK [1, 8, 9, 11, 90] (eE := [(1, .int .i64 a1), (8, .int .i64 z5.2.2), (9, .int .i64 z7.2.1), (11, .int .i64 (fW .i64 (z5.1 + z7.2.2))), (90, .bool true)]) (by kernel_rfl) ?_
         exact hj8 (z7.2.1, fW .i64 (z5.1 + z7.2.2), true)
        ·refine oR 2 (p' := (atN 21 (ctl1 g79p12))) (eE := ((80, .int .i64 (fW .i64 (z5.1 + z7.2.2))) :: (79, .str a0) :: (78, .bool false) :: E22)) (H' := (mkH [])) (by kernel_rfl) ?_
         refine oH (fun (x3_21 : Int) => (.int .u8 x3_21, (mkH []))) (atN 22 (ctl1 g79p12)) (fun x3_21 => ((81, .int .u8 x3_21) :: (80, .int .i64 (fW .i64 (z5.1 + z7.2.2))) :: (79, .str a0) :: (78, .bool false) :: E22)) (idxH (by kernel_rfl)) (fun _ => by kernel_rfl) (fun x3_21 hx3_21 => ?_)
         let E24 : Env := ((86, .bool (!decide (x3_21 = 125))) :: (85, .bool (!decide (x3_21 = 125))) :: (84, .bool (!decide (x3_21 = 125))) :: (83, .bool (!decide (x3_21 = 125))) :: (82, .bool (!decide (x3_21 = 125))) :: (81, .int .u8 x3_21) :: (80, .int .i64 (fW .i64 (z5.1 + z7.2.2))) :: (79, .str a0) :: (78, .bool false) :: E22)
         refine oR 5 (p' := (atN 27 (ctl1 g79p12))) (eE := E24) (H' := (mkH [])) (by kernel_rfl) ?_
         refine oS 86 (b := !decide (x3_21 = 125)) (by kernel_rfl) (fun hb => ?_) (fun hb => ?_)
         ·let E25 : Env := ((90, .bool true) :: (89, .tuple []) :: (88, .tuple []) :: (87, .tuple []) :: (86, .bool true) :: E24)
          refine oR 5 (p' := g79p13) (eE := E25) (H' := (mkH [])) (by kernel_rfl) ?_
          refine oK [1, 8, 9, 11, 90] (eE := [(1, .int .i64 a1), (8, .int .i64 z5.2.2), (9, .int .i64 z7.2.1), (11, .int .i64 (fW .i64 (z5.1 + z7.2.2))), (90, .bool true)]) (by kernel_rfl) ?_
          exact hj8 (z7.2.1, fW .i64 (z5.1 + z7.2.2), true)
         ·refine oR 1 (p' := (atN 28 (ctl1 g79p12))) (eE := ((87, .int .i64 z7.2.1) :: (86, .bool false) :: E24)) (H' := (mkH [])) (by kernel_rfl) ?_
          refine oC (fun (x3_28 : (List Nat)) => .str x3_28) (atN 29 (ctl1 g79p12)) (fun x3_28 => ((88, .str x3_28) :: (87, .int .i64 z7.2.1) :: (86, .bool false) :: E24)) (fi := 94) (args := [.int .i64 z7.2.1]) (by kernel_rfl) (by kernel_rfl) (fun _ => by kernel_rfl) (fun r h => g94_ok k z7.2.1 r h) (fun _ => by kernel_rfl) (fun x3_28 hx3_28 => ?_)
          let E26 : Env := ((90, .bool (eqL x3_28 [])) :: (89, .bool (eqL x3_28 [])) :: (88, .str x3_28) :: (87, .int .i64 z7.2.1) :: (86, .bool false) :: E24)
          refine oR 3 (p' := g79p13) (eE := E26) (H' := (mkH [])) (by kernel_rfl) ?_
          refine oK [1, 8, 9, 11, 90] (eE := [(1, .int .i64 a1), (8, .int .i64 z5.2.2), (9, .int .i64 z7.2.1), (11, .int .i64 (fW .i64 (z5.1 + z7.2.2))), (90, .bool (eqL x3_28 []))]) (by kernel_rfl) ?_
          exact hj8 (z7.2.1, fW .i64 (z5.1 + z7.2.2), eqL x3_28 [])
       ·let E27 : Env := ((87, .int .i64 z7.2.1) :: (86, .bool false) :: (85, .bool false) :: (84, .bool false) :: (83, .tuple []) :: (82, .tuple []) :: (81, .tuple []) :: (80, .tuple []) :: (79, .tuple []) :: (78, .tuple []) :: (77, .tuple []) :: (76, .tuple []) :: (75, .tuple []) :: (74, .tuple []) :: (73, .bool false) :: (73, .bool (decide (z5.2.2 = 1))) :: (72, .bool (decide (z5.2.2 = 1))) :: (71, .int .i64 z5.2.2) :: (70, .bool false) :: E20)
        refine oR 14 (p' := (atN 28 (ctl1 g79p12))) (eE := E27) (H' := (mkH [])) (by kernel_rfl) ?_
        refine oC (fun (x3_28 : (List Nat)) => .str x3_28) (atN 29 (ctl1 g79p12)) (fun x3_28 => ((88, .str x3_28) :: E27)) (fi := 94) (args := [.int .i64 z7.2.1]) (by kernel_rfl) (by kernel_rfl) (fun _ => by kernel_rfl) (fun r h => g94_ok k z7.2.1 r h) (fun _ => by kernel_rfl) (fun x3_28 hx3_28 => ?_)
        refine oR 3 (p' := g79p13) (eE := ((90, .bool (eqL x3_28 [])) :: (89, .bool (eqL x3_28 [])) :: (88, .str x3_28) :: E27)) (H' := (mkH [])) (by kernel_rfl) ?_
        refine oK [1, 8, 9, 11, 90] (eE := [(1, .int .i64 a1), (8, .int .i64 z5.2.2), (9, .int .i64 z7.2.1), (11, .int .i64 (fW .i64 (z5.1 + z7.2.2))), (90, .bool (eqL x3_28 []))]) (by kernel_rfl) ?_
        exact hj8 (z7.2.1, fW .i64 (z5.1 + z7.2.2), eqL x3_28 [])
  ·refine oS 29 (b := decide (y6_1 < z5.2.1)) (by kernel_rfl) (fun hb => ?_) (fun hb => ?_)
   ·let E28 : Env := ((37, .bool (decide (fW .i64 (z5.1 + y6_1) < (a0.length : Int)))) :: (36, .bool (decide (fW .i64 (z5.1 + y6_1) < (a0.length : Int)))) :: (35, .bool (decide (fW .i64 (z5.1 + y6_1) < (a0.length : Int)))) :: (34, .int .i64 (a0.length : Int)) :: (33, .str a0) :: (32, .int .i64 (fW .i64 (z5.1 + y6_1))) :: (31, .int .i64 y6_1) :: (30, .int .i64 z5.1) :: (29, .bool true) :: E3)
    refine oR 8 (p' := (atN 12 (ctl1 g79p7))) (eE := E28) (H' := (mkH [])) (by kernel_rfl) ?_
    refine oS 37 (b := decide (fW .i64 (z5.1 + y6_1) < (a0.length : Int))) (by kernel_rfl) (fun hb => ?_) (fun hb => ?_)
    ·let E29 : Env := ((41, .int .i64 (fW .i64 (z5.1 + y6_1))) :: (40, .int .i64 y6_1) :: (39, .int .i64 z5.1) :: (38, .str a0) :: (37, .bool true) :: E28)
     refine oR 4 (p' := (atN 16 (ctl1 g79p7))) (eE := E29) (H' := (mkH [])) (by kernel_rfl) ?_
     refine oH (fun (x1_16 : Int) => (.int .u8 x1_16, (mkH []))) (atN 17 (ctl1 g79p7)) (fun x1_16 => ((42, .int .u8 x1_16) :: E29)) (idxH (by kernel_rfl)) (fun _ => by kernel_rfl) (fun x1_16 hx1_16 => ?_)
     refine oC (fun (x1_17 : Int) => .int .i64 x1_17) (atN 18 (ctl1 g79p7)) (fun x1_17 => ((43, .int .i64 x1_17) :: (42, .int .u8 x1_16) :: E29)) (fi := 75) (args := [.int .u8 x1_16]) (by kernel_rfl) (by kernel_rfl) (fun _ => by kernel_rfl) (fun r h => g75_ok k x1_16 r h) (fun _ => by kernel_rfl) (fun x1_17 hx1_17 => ?_)
     refine oR 3 (p' := g79p8) (eE := ((45, .bool (decide (x1_17 < 16))) :: (44, .bool (decide (x1_17 < 16))) :: (43, .int .i64 x1_17) :: (42, .int .u8 x1_16) :: E29)) (H' := (mkH [])) (by kernel_rfl) ?_
     refine oK [0, 1, 6, 7, 8, 9, 10, 45] (eE := [(0, .str a0), (1, .int .i64 a1), (6, .int .i64 z5.1), (7, .int .i64 z5.2.1), (8, .int .i64 z5.2.2), (9, .int .i64 y6_0), (10, .int .i64 y6_1), (45, .bool (decide (x1_17 < 16)))]) (by kernel_rfl) ?_
     exact hj7 (decide (x1_17 < 16), y6_0, y6_1)
    ·let E30 : Env := ((45, .bool false) :: (44, .tuple []) :: (43, .tuple []) :: (42, .tuple []) :: (41, .tuple []) :: (40, .tuple []) :: (39, .tuple []) :: (38, .tuple []) :: (37, .bool false) :: E28)
     refine oR 9 (p' := g79p8) (eE := E30) (H' := (mkH [])) (by kernel_rfl) ?_
     refine oK [0, 1, 6, 7, 8, 9, 10, 45] (eE := [(0, .str a0), (1, .int .i64 a1), (6, .int .i64 z5.1), (7, .int .i64 z5.2.1), (8, .int .i64 z5.2.2), (9, .int .i64 y6_0), (10, .int .i64 y6_1), (45, .bool false)]) (by kernel_rfl) ?_
     exact hj7 (false, y6_0, y6_1)
   ·let E31 : Env := ((45, .bool false) :: (44, .tuple []) :: (43, .tuple []) :: (42, .tuple []) :: (41, .tuple []) :: (40, .tuple []) :: (39, .tuple []) :: (38, .tuple []) :: (37, .bool false) :: (36, .bool false) :: (35, .tuple []) :: (34, .tuple []) :: (33, .tuple []) :: (32, .tuple []) :: (31, .tuple []) :: (30, .tuple []) :: (29, .bool false) :: E3)
    refine oR 17 (p' := g79p8) (eE := E31) (H' := (mkH [])) (by kernel_rfl) ?_
    refine oK [0, 1, 6, 7, 8, 9, 10, 45] (eE := [(0, .str a0), (1, .int .i64 a1), (6, .int .i64 z5.1), (7, .int .i64 z5.2.1), (8, .int .i64 z5.2.2), (9, .int .i64 y6_0), (10, .int .i64 y6_1), (45, .bool false)]) (by kernel_rfl) ?_
    exact hj7 (false, y6_0, y6_1)
def g79 (k : Nat) (a0 : (List Nat)) (a1 : Int) : Option (Int × Int) :=
 jn (fun (z4 : Bool) => jn (fun (z5 : Int × Int × Int) => g79_l6 k a0 a1 z5 k 0 0) (fun j5 => if z4 then (j5 (fW .i64 (fW .i64 (a1 + 2) + 1), 6, 1)) else (j5 (fW .i64 (a1 + 2), 2, 0)))) (fun j4 => if (decide (fW .i64 (a1 + 2) < (a0.length : Int))) then ((nthS a0 (fW .i64 (a1 + 2))).bind fun x0_7 => j4 (decide (x0_7 = 123))) else (j4 false))
theorem g79_ok (k : Nat) (a0 : (List Nat)) (a1 : Int) (r : (Int × Int)) (h : g79 k a0 a1 = some r) : PureOk Try.prog 79 [.str a0, .int .i64 a1] (.tuple [.int .i64 r.1, .int .i64 r.2]) := by
 refine pure_of X79 (fun _ => rfl) Try.func79 (by decide +kernel) (by kernel_rfl) (t := g79 k a0 a1) ?_ h
 unfold g79
 refine oE (eE := [(0, .str a0), (1, .int .i64 a1)]) (by kernel_rfl) ?_
 let E1 : Env := [(18, .bool (decide (fW .i64 (a1 + 2) < (a0.length : Int)))), (17, .bool (decide (fW .i64 (a1 + 2) < (a0.length : Int)))), (16, .int .i64 (a0.length : Int)), (15, .str a0), (14, .int .i64 (fW .i64 (a1 + 2))), (8, .int .i64 0), (7, .int .i64 2), (6, .int .i64 (fW .i64 (a1 + 2))), (13, .int .i64 (fW .i64 (a1 + 2))), (12, .int .i64 a1), (5, .int .i64 0), (4, .int .i64 0), (0, .str a0), (1, .int .i64 a1)]
 refine oR 21 (p' := (atN 5 (ctl1 g79p2))) (eE := E1) (H' := (mkH [])) (by kernel_rfl) ?_
 refine oJ (f := fun (z4 : Bool) => jn (fun (z5 : Int × Int × Int) => g79_l6 k a0 a1 z5 k 0 0) (fun j5 => if z4 then (j5 (fW .i64 (fW .i64 (a1 + 2) + 1), 6, 1)) else (j5 (fW .i64 (a1 + 2), 2, 0)))) g79p3 (fun (z4 : Bool) => [(0, .str a0), (1, .int .i64 a1), (6, .int .i64 (fW .i64 (a1 + 2))), (7, .int .i64 2), (8, .int .i64 0), (23, .bool z4)]) (fun (z4 : Bool) => (mkH [])) (fun z4 => ?_) (fun j4 hj4 => ?_)
 ·refine oJ (f := fun (z5 : Int × Int × Int) => g79_l6 k a0 a1 z5 k 0 0) g79p5 (fun (z5 : Int × Int × Int) => [(0, .str a0), (1, .int .i64 a1), (6, .int .i64 z5.1), (7, .int .i64 z5.2.1), (8, .int .i64 z5.2.2)]) (fun (z5 : Int × Int × Int) => (mkH [])) (fun z5 => ?_) (fun j5 hj5 => ?_)
  ·let E2 : Env := [(10, .int .i64 0), (9, .int .i64 0), (0, .str a0), (1, .int .i64 a1), (6, .int .i64 z5.1), (7, .int .i64 z5.2.1), (8, .int .i64 z5.2.2)]
   refine oR 7 (p' := g79p6) (eE := E2) (H' := (mkH [])) (by kernel_rfl) ?_
   refine oK [0, 1, 6, 7, 8, 9, 10] (eE := [(0, .str a0), (1, .int .i64 a1), (6, .int .i64 z5.1), (7, .int .i64 z5.2.1), (8, .int .i64 z5.2.2), (9, .int .i64 0), (10, .int .i64 0)]) (by kernel_rfl) ?_
   exact (g79_l6_ok k a0 a1 z5 k) 0 0
  ·refine oS 23 (b := z4) (by kernel_rfl) (fun hb => ?_) (fun hb => ?_)
   ·let E32 : Env := [(8, .int .i64 1), (7, .int .i64 6), (6, .int .i64 (fW .i64 (fW .i64 (a1 + 2) + 1))), (25, .int .i64 (fW .i64 (fW .i64 (a1 + 2) + 1))), (24, .int .i64 (fW .i64 (a1 + 2))), (23, .bool true), (0, .str a0), (1, .int .i64 a1), (6, .int .i64 (fW .i64 (a1 + 2))), (7, .int .i64 2), (8, .int .i64 0), (23, .bool z4)]
    refine oR 9 (p' := g79p5) (eE := E32) (H' := (mkH [])) (by kernel_rfl) ?_
    refine oK [0, 1, 6, 7, 8] (eE := [(0, .str a0), (1, .int .i64 a1), (6, .int .i64 (fW .i64 (fW .i64 (a1 + 2) + 1))), (7, .int .i64 6), (8, .int .i64 1)]) (by kernel_rfl) ?_
    exact hj5 (fW .i64 (fW .i64 (a1 + 2) + 1), 6, 1)
   ·let E33 : Env := [(23, .bool false), (0, .str a0), (1, .int .i64 a1), (6, .int .i64 (fW .i64 (a1 + 2))), (7, .int .i64 2), (8, .int .i64 0), (23, .bool z4)]
    refine oR 3 (p' := g79p5) (eE := E33) (H' := (mkH [])) (by kernel_rfl) ?_
    refine oK [0, 1, 6, 7, 8] (eE := [(0, .str a0), (1, .int .i64 a1), (6, .int .i64 (fW .i64 (a1 + 2))), (7, .int .i64 2), (8, .int .i64 0)]) (by kernel_rfl) ?_
    exact hj5 (fW .i64 (a1 + 2), 2, 0)
 ·refine oS 18 (b := decide (fW .i64 (a1 + 2) < (a0.length : Int))) (by kernel_rfl) (fun hb => ?_) (fun hb => ?_)
  ·refine oR 2 (p' := (atN 7 (ctl1 g79p2))) (eE := ((20, .int .i64 (fW .i64 (a1 + 2))) :: (19, .str a0) :: (18, .bool true) :: E1)) (H' := (mkH [])) (by kernel_rfl) ?_
   refine oH (fun (x0_7 : Int) => (.int .u8 x0_7, (mkH []))) (atN 8 (ctl1 g79p2)) (fun x0_7 => ((21, .int .u8 x0_7) :: (20, .int .i64 (fW .i64 (a1 + 2))) :: (19, .str a0) :: (18, .bool true) :: E1)) (idxH (by kernel_rfl)) (fun _ => by kernel_rfl) (fun x0_7 hx0_7 => ?_)
   let E34 : Env := ((23, .bool (decide (x0_7 = 123))) :: (22, .bool (decide (x0_7 = 123))) :: (21, .int .u8 x0_7) :: (20, .int .i64 (fW .i64 (a1 + 2))) :: (19, .str a0) :: (18, .bool true) :: E1)
   refine oR 3 (p' := g79p3) (eE := E34) (H' := (mkH [])) (by kernel_rfl) ?_
   refine oK [0, 1, 6, 7, 8, 23] (eE := [(0, .str a0), (1, .int .i64 a1), (6, .int .i64 (fW .i64 (a1 + 2))), (7, .int .i64 2), (8, .int .i64 0), (23, .bool (decide (x0_7 = 123)))]) (by kernel_rfl) ?_
   exact hj4 (decide (x0_7 = 123))
  ·let E35 : Env := ((23, .bool false) :: (22, .tuple []) :: (21, .tuple []) :: (20, .tuple []) :: (19, .tuple []) :: (18, .bool false) :: E1)
   refine oR 6 (p' := g79p3) (eE := E35) (H' := (mkH [])) (by kernel_rfl) ?_
   refine oK [0, 1, 6, 7, 8, 23] (eE := [(0, .str a0), (1, .int .i64 a1), (6, .int .i64 (fW .i64 (a1 + 2))), (7, .int .i64 2), (8, .int .i64 0), (23, .bool false)]) (by kernel_rfl) ?_
   exact hj4 false
end
end Go.Proofs.Ytabhkocokojddaa.Am
set_option maxRecDepth 100000
set_option linter.unusedVariables false
namespace Go.Proofs.Ytabhkocokojddaa.Am
noncomputable section
open Go
def X80 : Fx (Int × Int) := ⟨Try.prog, cx, Try.f80, fun r => .tuple [.int .i64 r.1, .int .i64 r.2], 0, fun _ => H0, cxTi, cxOrd⟩
def g80p0 : Pt := nav [0] (bodyAt Try.f80)
def g80p1 : Pt := nav [0, 0, 0, 0] g80p0
def g80p2 : Pt := nav [0, 0] g80p1
def g80p4 : Pt := nav [2, 0, 0] g80p2
def g80p6 : Pt := nav [0, 0, 0, 0] g80p4
def g80p7 : Pt := nav [0, 0] g80p6
def g80 (k : Nat) (a0 : (List Nat)) (a1 : Int) : Option (Int × Int) :=
 if (decide ((a0.length : Int) ≤ fW .i64 (a1 + 2))) then (some (((-1) : Int), (0 : Int))) else ((nthS a0 (fW .i64 (a1 + 2))).bind fun x0_3 => jn (fun (z1 : Bool) => if z1 then (some (((-1) : Int), (0 : Int))) else (some (fW .i64 (andI .u8 x0_3 31), (3 : Int)))) (fun j1 => if (decide (x0_3 < 64)) then (j1 true) else (if (decide (95 < x0_3)) then (if (decide (x0_3 < 97)) then (j1 true) else (j1 (decide (122 < x0_3)))) else (j1 false))))
theorem g80_ok (k : Nat) (a0 : (List Nat)) (a1 : Int) (r : (Int × Int)) (h : g80 k a0 a1 = some r) : PureOk Try.prog 80 [.str a0, .int .i64 a1] (.tuple [.int .i64 r.1, .int .i64 r.2]) := by
 refine pure_of X80 (fun _ => rfl) Try.func80 (by decide +kernel) (by kernel_rfl) (t := g80 k a0 a1) ?_ h
 unfold g80
 refine oE (eE := [(0, .str a0), (1, .int .i64 a1)]) (by kernel_rfl) ?_
 let E1 : Env := [(11, .bool (decide ((a0.length : Int) ≤ fW .i64 (a1 + 2)))), (10, .int .i64 (a0.length : Int)), (9, .str a0), (8, .int .i64 (fW .i64 (a1 + 2))), (7, .int .i64 a1), (5, .int .i64 0), (4, .int .i64 0), (0, .str a0), (1, .int .i64 a1)]
 refine oR 14 (p' := g80p2) (eE := E1) (H' := (mkH [])) (by kernel_rfl) ?_
 refine oS 11 (b := decide ((a0.length : Int) ≤ fW .i64 (a1 + 2))) (by kernel_rfl) (fun hb => ?_) (fun hb => ?_)
 ·refine oR 7 (p' := .fin) (eE := ((5, .int .i64 0) :: (4, .int .i64 (-1)) :: (11, .bool true) :: E1)) (H' := (mkH [])) (by kernel_rfl) ?_
  exact oT (r := (((-1) : Int), (0 : Int))) (xs := [.int .i64 (-1), .int .i64 0]) (v := .tuple [.int .i64 (-1), .int .i64 0]) (by kernel_rfl) (by kernel_rfl) (by kernel_rfl) (.pures (by kernel_rfl)) (by kernel_rfl)
 ·refine oR 7 (p' := (atN 3 (ctl1 g80p4))) (eE := ((14, .int .i64 (fW .i64 (a1 + 2))) :: (13, .int .i64 a1) :: (12, .str a0) :: (11, .bool false) :: E1)) (H' := (mkH [])) (by kernel_rfl) ?_
  refine oH (fun (x0_3 : Int) => (.int .u8 x0_3, (mkH []))) (atN 4 (ctl1 g80p4)) (fun x0_3 => ((15, .int .u8 x0_3) :: (14, .int .i64 (fW .i64 (a1 + 2))) :: (13, .int .i64 a1) :: (12, .str a0) :: (11, .bool false) :: E1)) (idxH (by kernel_rfl)) (fun _ => by kernel_rfl) (fun x0_3 hx0_3 => ?_)
  let E2 : Env := ((6, .int .u8 x0_3) :: (15, .int .u8 x0_3) :: (14, .int .i64 (fW .i64 (a1 + 2))) :: (13, .int .i64 a1) :: (12, .str a0) :: (11, .bool false) :: E1)
  refine oR 4 (p' := g80p6) (eE := E2) (H' := (mkH [])) (by kernel_rfl) ?_
  refine oK [6] (eE := [(6, .int .u8 x0_3)]) (by kernel_rfl) ?_
  refine oR 4 (p' := (atN 3 (ctl1 g80p6))) (eE := [(18, .bool (decide (x0_3 < 64))), (17, .bool (decide (x0_3 < 64))), (16, .int .u8 x0_3), (6, .int .u8 x0_3)]) (H' := (mkH [])) (by kernel_rfl) ?_
  refine oJ (f := fun (z1 : Bool) => if z1 then (some (((-1) : Int), (0 : Int))) else (some (fW .i64 (andI .u8 x0_3 31), (3 : Int)))) g80p7 (fun (z1 : Bool) => [(6, .int .u8 x0_3), (29, .bool z1)]) (fun (z1 : Bool) => (mkH [])) (fun z1 => ?_) (fun j1 hj1 => ?_)
  ·refine oS 29 (b := z1) (by kernel_rfl) (fun hb => ?_) (fun hb => ?_)
   ·let E3 : Env := [(5, .int .i64 0), (4, .int .i64 (-1)), (29, .bool true), (6, .int .u8 x0_3), (29, .bool z1)]
    refine oR 7 (p' := .fin) (eE := E3) (H' := (mkH [])) (by kernel_rfl) ?_
    exact oT (r := (((-1) : Int), (0 : Int))) (xs := [.int .i64 (-1), .int .i64 0]) (v := .tuple [.int .i64 (-1), .int .i64 0]) (by kernel_rfl) (by kernel_rfl) (by kernel_rfl) (.pures (by kernel_rfl)) (by kernel_rfl)
   ·let E4 : Env := [(5, .int .i64 3), (4, .int .i64 (fW .i64 (andI .u8 x0_3 31))), (32, .int .i64 (fW .i64 (andI .u8 x0_3 31))), (31, .int .u8 (andI .u8 x0_3 31)), (30, .int .u8 x0_3), (29, .bool false), (6, .int .u8 x0_3), (29, .bool z1)]
    refine oR 11 (p' := .fin) (eE := E4) (H' := (mkH [])) (by kernel_rfl) ?_
    exact oT (r := (fW .i64 (andI .u8 x0_3 31), (3 : Int))) (xs := [.int .i64 (fW .i64 (andI .u8 x0_3 31)), .int .i64 3]) (v := .tuple [.int .i64 (fW .i64 (andI .u8 x0_3 31)), .int .i64 3]) (by kernel_rfl) (by kernel_rfl) (by kernel_rfl) (.pures (by kernel_rfl)) (by kernel_rfl)
  ·refine oS 18 (b := decide (x0_3 < 64)) (by kernel_rfl) (fun hb => ?_) (fun hb => ?_)
   ·let E5 : Env := [(29, .bool true), (28, .tuple []), (27, .tuple []), (26, .tuple []), (25, .tuple []), (24, .tuple []), (23, .tuple []), (22, .tuple []), (21, .tuple []), (20, .tuple []), (19, .tuple []), (18, .bool true), (18, .bool (decide (x0_3 < 64))), (17, .bool (decide (x0_3 < 64))), (16, .int .u8 x0_3), (6, .int .u8 x0_3)]
    refine oR 12 (p' := g80p7) (eE := E5) (H' := (mkH [])) (by kernel_rfl) ?_
    refine oK [6, 29] (eE := [(6, .int .u8 x0_3), (29, .bool true)]) (by kernel_rfl) ?_
    exact hj1 true
   ·let E6 : Env := [(21, .bool (decide (95 < x0_3))), (20, .bool (decide (95 < x0_3))), (19, .int .u8 x0_3), (18, .bool false), (18, .bool (decide (x0_3 < 64))), (17, .bool (decide (x0_3 < 64))), (16, .int .u8 x0_3), (6, .int .u8 x0_3)]
    refine oR 3 (p' := (atN 6 (ctl1 g80p6))) (eE := E6) (H' := (mkH [])) (by kernel_rfl) ?_
    refine oS 21 (b := decide (95 < x0_3)) (by kernel_rfl) (fun hb => ?_) (fun hb => ?_)
    ·refine oR 3 (p' := (atN 9 (ctl1 g80p6))) (eE := ((24, .bool (decide (x0_3 < 97))) :: (23, .bool (decide (x0_3 < 97))) :: (22, .int .u8 x0_3) :: (21, .bool true) :: E6)) (H' := (mkH [])) (by kernel_rfl) ?_
     refine oS 24 (b := decide (x0_3 < 97)) (by kernel_rfl) (fun hb => ?_) (fun hb => ?_)
     ·let E7 : Env := ((29, .bool true) :: (28, .bool true) :: (27, .bool true) :: (26, .tuple []) :: (25, .tuple []) :: (24, .bool true) :: (24, .bool (decide (x0_3 < 97))) :: (23, .bool (decide (x0_3 < 97))) :: (22, .int .u8 x0_3) :: (21, .bool true) :: E6)
      refine oR 6 (p' := g80p7) (eE := E7) (H' := (mkH [])) (by kernel_rfl) ?_
      refine oK [6, 29] (eE := [(6, .int .u8 x0_3), (29, .bool true)]) (by kernel_rfl) ?_
      exact hj1 true
     ·let E8 : Env := ((29, .bool (decide (122 < x0_3))) :: (28, .bool (decide (122 < x0_3))) :: (27, .bool (decide (122 < x0_3))) :: (26, .bool (decide (122 < x0_3))) :: (25, .int .u8 x0_3) :: (24, .bool false) :: (24, .bool (decide (x0_3 < 97))) :: (23, .bool (decide (x0_3 < 97))) :: (22, .int .u8 x0_3) :: (21, .bool true) :: E6)
      refine oR 6 (p' := g80p7) (eE := E8) (H' := (mkH [])) (by kernel_rfl) ?_
      refine oK [6, 29] (eE := [(6, .int .u8 x0_3), (29, .bool (decide (122 < x0_3)))]) (by kernel_rfl) ?_
      exact hj1 (decide (122 < x0_3))
    ·let E9 : Env := ((29, .bool false) :: (28, .bool false) :: (27, .tuple []) :: (26, .tuple []) :: (25, .tuple []) :: (24, .tuple []) :: (23, .tuple []) :: (22, .tuple []) :: (21, .bool false) :: E6)
     refine oR 9 (p' := g80p7) (eE := E9) (H' := (mkH [])) (by kernel_rfl) ?_
     refine oK [6, 29] (eE := [(6, .int .u8 x0_3), (29, .bool false)]) (by kernel_rfl) ?_
     exact hj1 false
end
end Go.Proofs.Ytabhkocokojddaa.Am
set_option maxRecDepth 100000
set_option linter.unusedVariables false
namespace Go.Proofs.Ytabhkocokojddaa.Am
noncomputable section
open Go
def X41 : Fx (Int × Int) := ⟨Try.prog, cx, Try.f41, fun r => .tuple [.int .i64 r.1, .int .i64 r.2], 0, fun _ => H0, cxTi, cxOrd⟩
def g41p0 : Pt := nav [0] (bodyAt Try.f41)
def g41p1 : Pt := nav [0, 0, 0, 0] g41p0
def g41p2 : Pt := nav [0, 0] g41p1
def g41p4 : Pt := nav [2, 0, 0] g41p2
def g41p6 : Pt := nav [0, 0, 0, 0, 0] g41p4
def g41p7 : Pt := nav [0, 0] g41p6
def g41p8 : Pt := nav [1, 0] g41p7
def g41p9 : Pt := nav [2, 0] g41p7
def g41p10 : Pt := nav [0, 0] g41p9
def g41p11 : Pt := nav [1, 0] g41p10
def g41p12 : Pt := nav [2, 0] g41p10
def g41p13 : Pt := nav [0, 0] g41p12
def g41p14 : Pt := nav [1, 0] g41p13
def g41p15 : Pt := nav [2, 0, 0, 0] g41p13
def g41p16 : Pt := nav [0, 0, 0, 0, 0] g41p14
def g41p17 : Pt := nav [0, 0, 0, 0] g41p15
def g41p18 : Pt := nav [0, 0, 0] g41p16
def g41p19 : Pt := nav [0, 0] g41p17
def g41p20 : Pt := nav [0, 0] g41p18
def g41p21 : Pt := nav [0, 0, 0] g41p19
def g41p22 : Pt := nav [1, 0, 0, 0] g41p20
def g41p24 : Pt := nav [1, 0, 0, 0] g41p21
def g41p25 : Pt := nav [2, 0, 0] g41p21
def g41p26 : Pt := nav [0, 0] g41p22
def g41p27 : Pt := nav [0, 0, 0] g41p24
def g41p28 : Pt := nav [0, 0, 0, 0] g41p25
def g41p29 : Pt := nav [0, 0] g41p27
def g41p30 : Pt := nav [0, 0] g41p28
def g41_l9 (k : Nat)  (a0 : (List Nat)) (a1 : Int) (n : Nat) : Int → Int → Option (Int × Int) :=
 Nat.rec (motive := fun _ => Int → Int → Option (Int × Int)) (fun _ _ => none) (fun _ ih => fun (y9_0 : Int) (y9_1 : Int) => jn (fun (z10 : Bool × Int × Int) => if z10.1 then ((nthS a0 (fW .i64 (a1 + z10.2.1))).bind fun x6_6 => (g75 k x6_6).bind fun x6_7 => ih (orI .i64 (shlC .i64 z10.2.2 3) x6_7) (fW .i64 (z10.2.1 + 1))) else (some (z10.2.2, z10.2.1))) (fun j10 => if (decide (y9_1 < 4)) then (if (decide (fW .i64 (a1 + y9_1) < (a0.length : Int))) then ((nthS a0 (fW .i64 (a1 + y9_1))).bind fun x5_15 => (g75 k x5_15).bind fun x5_16 => j10 (decide (x5_16 < 8), y9_1, y9_0)) else (j10 (false, y9_1, y9_0))) else (j10 (false, y9_1, y9_0)))) n
theorem g41_l9_s (k : Nat)  (a0 : (List Nat)) (a1 : Int) (n : Nat) (y9_0 : Int) (y9_1 : Int) : g41_l9 k a0 a1 (n + 1) y9_0 y9_1 = (jn (fun (z10 : Bool × Int × Int) => if z10.1 then ((nthS a0 (fW .i64 (a1 + z10.2.1))).bind fun x6_6 => (g75 k x6_6).bind fun x6_7 => (g41_l9 k a0 a1 n) (orI .i64 (shlC .i64 z10.2.2 3) x6_7) (fW .i64 (z10.2.1 + 1))) else (some (z10.2.2, z10.2.1))) (fun j10 => if (decide (y9_1 < 4)) then (if (decide (fW .i64 (a1 + y9_1) < (a0.length : Int))) then ((nthS a0 (fW .i64 (a1 + y9_1))).bind fun x5_15 => (g75 k x5_15).bind fun x5_16 => j10 (decide (x5_16 < 8), y9_1, y9_0)) else (j10 (false, y9_1, y9_0))) else (j10 (false, y9_1, y9_0)))) := rfl
theorem g41_l9_ok (k : Nat)  (a0 : (List Nat)) (a1 : Int)  : ∀ (n : Nat) (y9_0 : Int) (y9_1 : Int), Ok X41 g41p16 [(0, .str a0), (1, .int .i64 a1), (7, .int .i64 y9_0), (8, .int .i64 y9_1)] (mkH []) (g41_l9 k a0 a1 n y9_0 y9_1)
 | 0, _, _ => ok_none
 | n + 1, y9_0, y9_1 => by
  have ih := g41_l9_ok k a0 a1 n
  rw [g41_l9_s]
  refine ok_ent (p' := nav [0] g41p16) (by kernel_rfl) ?_
  let E10 : Env := [(63, .bool (decide (y9_1 < 4))), (62, .bool (decide (y9_1 < 4))), (61, .int .i64 y9_1), (0, .str a0), (1, .int .i64 a1), (7, .int .i64 y9_0), (8, .int .i64 y9_1)]
  refine oR 6 (p' := (atN 3 (ctl1 g41p18))) (eE := E10) (H' := (mkH [])) (by kernel_rfl) ?_
  refine oJ (f := fun (z10 : Bool × Int × Int) => if z10.1 then ((nthS a0 (fW .i64 (a1 + z10.2.1))).bind fun x6_6 => (g75 k x6_6).bind fun x6_7 => (g41_l9 k a0 a1 n) (orI .i64 (shlC .i64 z10.2.2 3) x6_7) (fW .i64 (z10.2.1 + 1))) else (some (z10.2.2, z10.2.1))) g41p20 (fun (z10 : Bool × Int × Int) => [(0, .str a0), (1, .int .i64 a1), (7, .int .i64 z10.2.2), (8, .int .i64 z10.2.1), (79, .bool z10.1)]) (fun (z10 : Bool × Int × Int) => (mkH [])) (fun z10 => ?_) (fun j10 hj10 => ?_)
  ·refine oS 79 (b := z10.1) (by kernel_rfl) (fun hb => ?_) (fun hb => ?_)
   ·let E11 : Env := [(85, .int .i64 (fW .i64 (a1 + z10.2.1))), (84, .int .i64 z10.2.1), (83, .int .i64 a1), (82, .str a0), (81, .int .i64 (shlC .i64 z10.2.2 3)), (80, .int .i64 z10.2.2), (79, .bool true), (0, .str a0), (1, .int .i64 a1), (7, .int .i64 z10.2.2), (8, .int .i64 z10.2.1), (79, .bool z10.1)]
    refine oR 11 (p' := (atN 6 (ctl1 g41p22))) (eE := E11) (H' := (mkH [])) (by kernel_rfl) ?_
    refine oH (fun (x6_6 : Int) => (.int .u8 x6_6, (mkH []))) (atN 7 (ctl1 g41p22)) (fun x6_6 => ((86, .int .u8 x6_6) :: E11)) (idxH (by kernel_rfl)) (fun _ => by kernel_rfl) (fun x6_6 hx6_6 => ?_)
    refine oC (fun (x6_7 : Int) => .int .i64 x6_7) (atN 8 (ctl1 g41p22)) (fun x6_7 => ((87, .int .i64 x6_7) :: (86, .int .u8 x6_6) :: E11)) (fi := 75) (args := [.int .u8 x6_6]) (by kernel_rfl) (by kernel_rfl) (fun _ => by kernel_rfl) (fun r h => g75_ok k x6_6 r h) (fun _ => by kernel_rfl) (fun x6_7 hx6_7 => ?_)
    refine oR 3 (p' := g41p26) (eE := ((7, .int .i64 (orI .i64 (shlC .i64 z10.2.2 3) x6_7)) :: (88, .int .i64 (orI .i64 (shlC .i64 z10.2.2 3) x6_7)) :: (87, .int .i64 x6_7) :: (86, .int .u8 x6_6) :: E11)) (H' := (mkH [])) (by kernel_rfl) ?_
    refine oK [0, 1, 7, 8] (eE := [(0, .str a0), (1, .int .i64 a1), (7, .int .i64 (orI .i64 (shlC .i64 z10.2.2 3) x6_7)), (8, .int .i64 z10.2.1)]) (by kernel_rfl) ?_
    let E12 : Env := [(8, .int .i64 (fW .i64 (z10.2.1 + 1))), (90, .int .i64 (fW .i64 (z10.2.1 + 1))), (89, .int .i64 z10.2.1), (0, .str a0), (1, .int .i64 a1), (7, .int .i64 (orI .i64 (shlC .i64 z10.2.2 3) x6_7)), (8, .int .i64 z10.2.1)]
    refine oR 5 (p' := g41p16) (eE := E12) (H' := (mkH [])) (by kernel_rfl) ?_
    refine oK [0, 1, 7, 8] (eE := [(0, .str a0), (1, .int .i64 a1), (7, .int .i64 (orI .i64 (shlC .i64 z10.2.2 3) x6_7)), (8, .int .i64 (fW .i64 (z10.2.1 + 1)))]) (by kernel_rfl) ?_
    exact ih (orI .i64 (shlC .i64 z10.2.2 3) x6_7) (fW .i64 (z10.2.1 + 1))
   ·let E13 : Env := [(5, .int .i64 z10.2.1), (4, .int .i64 z10.2.2), (92, .int .i64 z10.2.1), (91, .int .i64 z10.2.2), (79, .bool false), (0, .str a0), (1, .int .i64 a1), (7, .int .i64 z10.2.2), (8, .int .i64 z10.2.1), (79, .bool z10.1)]
    refine oR 10 (p' := .fin) (eE := E13) (H' := (mkH [])) (by kernel_rfl) ?_
    exact oT (r := (z10.2.2, z10.2.1)) (xs := [.int .i64 z10.2.2, .int .i64 z10.2.1]) (v := .tuple [.int .i64 z10.2.2, .int .i64 z10.2.1]) (by kernel_rfl) (by kernel_rfl) (by kernel_rfl) (.pures (by kernel_rfl)) (by kernel_rfl)
  ·refine oS 63 (b := decide (y9_1 < 4)) (by kernel_rfl) (fun hb => ?_) (fun hb => ?_)
   ·let E14 : Env := ((71, .bool (decide (fW .i64 (a1 + y9_1) < (a0.length : Int)))) :: (70, .bool (decide (fW .i64 (a1 + y9_1) < (a0.length : Int)))) :: (69, .bool (decide (fW .i64 (a1 + y9_1) < (a0.length : Int)))) :: (68, .int .i64 (a0.length : Int)) :: (67, .str a0) :: (66, .int .i64 (fW .i64 (a1 + y9_1))) :: (65, .int .i64 y9_1) :: (64, .int .i64 a1) :: (63, .bool true) :: E10)
    refine oR 8 (p' := (atN 11 (ctl1 g41p18))) (eE := E14) (H' := (mkH [])) (by kernel_rfl) ?_
    refine oS 71 (b := decide (fW .i64 (a1 + y9_1) < (a0.length : Int))) (by kernel_rfl) (fun hb => ?_) (fun hb => ?_)
    ·let E15 : Env := ((75, .int .i64 (fW .i64 (a1 + y9_1))) :: (74, .int .i64 y9_1) :: (73, .int .i64 a1) :: (72, .str a0) :: (71, .bool true) :: E14)
     refine oR 4 (p' := (atN 15 (ctl1 g41p18))) (eE := E15) (H' := (mkH [])) (by kernel_rfl) ?_
     refine oH (fun (x5_15 : Int) => (.int .u8 x5_15, (mkH []))) (atN 16 (ctl1 g41p18)) (fun x5_15 => ((76, .int .u8 x5_15) :: E15)) (idxH (by kernel_rfl)) (fun _ => by kernel_rfl) (fun x5_15 hx5_15 => ?_)
     refine oC (fun (x5_16 : Int) => .int .i64 x5_16) (atN 17 (ctl1 g41p18)) (fun x5_16 => ((77, .int .i64 x5_16) :: (76, .int .u8 x5_15) :: E15)) (fi := 75) (args := [.int .u8 x5_15]) (by kernel_rfl) (by kernel_rfl) (fun _ => by kernel_rfl) (fun r h => g75_ok k x5_15 r h) (fun _ => by kernel_rfl) (fun x5_16 hx5_16 => ?_)
     refine oR 3 (p' := g41p20) (eE := ((79, .bool (decide (x5_16 < 8))) :: (78, .bool (decide (x5_16 < 8))) :: (77, .int .i64 x5_16) :: (76, .int .u8 x5_15) :: E15)) (H' := (mkH [])) (by kernel_rfl) ?_
     refine oK [0, 1, 7, 8, 79] (eE := [(0, .str a0), (1, .int .i64 a1), (7, .int .i64 y9_0), (8, .int .i64 y9_1), (79, .bool (decide (x5_16 < 8)))]) (by kernel_rfl) ?_
     exact hj10 (decide (x5_16 < 8), y9_1, y9_0)
    ·let E16 : Env := ((79, .bool false) :: (78, .tuple []) :: (77, .tuple []) :: (76, .tuple []) :: (75, .tuple []) :: (74, .tuple []) :: (73, .tuple []) :: (72, .tuple []) :: (71, .bool false) :: E14)
     refine oR 9 (p' := g41p20) (eE := E16) (H' := (mkH [])) (by kernel_rfl) ?_
     refine oK [0, 1, 7, 8, 79] (eE := [(0, .str a0), (1, .int .i64 a1), (7, .int .i64 y9_0), (8, .int .i64 y9_1), (79, .bool false)]) (by kernel_rfl) ?_
     exact hj10 (false, y9_1, y9_0)
   ·let E17 : Env := ((79, .bool false) :: (78, .tuple []) :: (77, .tuple []) :: (76, .tuple []) :: (75, .tuple []) :: (74, .tuple []) :: (73, .tuple []) :: (72, .tuple []) :: (71, .bool false) :: (70, .bool false) :: (69, .tuple []) :: (68, .tuple []) :: (67, .tuple []) :: (66, .tuple []) :: (65, .tuple []) :: (64, .tuple []) :: (63, .bool false) :: E10)
    refine oR 17 (p' := g41p20) (eE := E17) (H' := (mkH [])) (by kernel_rfl) ?_
    refine oK [0, 1, 7, 8, 79] (eE := [(0, .str a0), (1, .int .i64 a1), (7, .int .i64 y9_0), (8, .int .i64 y9_1), (79, .bool false)]) (by kernel_rfl) ?_
    exact hj10 (false, y9_1, y9_0)
def g41 (k : Nat) (a0 : (List Nat)) (a1 : Int) : Option (Int × Int) :=
 jn (fun (z7 : Bool) => if z7 then (some (((-1) : Int), (0 : Int))) else ((nthS a0 (fW .i64 (a1 + 1))).bind fun x1_3 => if (decide (x1_3 = 120)) then ((g79 k a0 a1).bind fun x2_2 => some (x2_2.1, x2_2.2)) else (if (decide (x1_3 = 94)) then ((g80 k a0 a1).bind fun x3_2 => some (x3_2.1, x3_2.2)) else (jn (fun (z8 : Bool) => if z8 then (g41_l9 k a0 a1 k 0 1) else (if (decide (x1_3 = 98)) then (some ((8 : Int), (2 : Int))) else (if (decide (x1_3 = 100)) then (some ((127 : Int), (2 : Int))) else (if (decide (x1_3 = 101)) then (some ((27 : Int), (2 : Int))) else (if (decide (x1_3 = 102)) then (some ((12 : Int), (2 : Int))) else (if (decide (x1_3 = 110)) then (some ((10 : Int), (2 : Int))) else (if (decide (x1_3 = 114)) then (some ((13 : Int), (2 : Int))) else (if (decide (x1_3 = 115)) then (some ((32 : Int), (2 : Int))) else (if (decide (x1_3 = 116)) then (some ((9 : Int), (2 : Int))) else (if (decide (x1_3 = 118)) then (some ((11 : Int), (2 : Int))) else ((g78 k a0 (fW .i64 (a1 + 1))).bind fun x4_3 => if (decide (x4_3.1 < 32)) then (some (((-1) : Int), (0 : Int))) else (some (x4_3.1, fW .i64 (x4_3.2 + 1)))))))))))))) (fun j8 => if (decide (48 ≤ x1_3)) then (j8 (decide (x1_3 ≤ 55))) else (j8 false)))))) (fun j7 => if (decide (a1 < 0)) then (j7 true) else (if (decide ((a0.length : Int) ≤ a1)) then (j7 true) else ((nthS a0 a1).bind fun x0_11 => if (!decide (x0_11 = 92)) then (j7 true) else (j7 (decide ((a0.length : Int) ≤ fW .i64 (a1 + 1)))))))
theorem g41_ok (k : Nat) (a0 : (List Nat)) (a1 : Int) (r : (Int × Int)) (h : g41 k a0 a1 = some r) : PureOk Try.prog 41 [.str a0, .int .i64 a1] (.tuple [.int .i64 r.1, .int .i64 r.2]) := by
 refine pure_of X41 (fun _ => rfl) Try.func41 (by decide +kernel) (by kernel_rfl) (t := g41 k a0 a1) ?_ h
 unfold g41
 refine oE (eE := [(0, .str a0), (1, .int .i64 a1)]) (by kernel_rfl) ?_
 let E1 : Env := [(15, .bool (decide (a1 < 0))), (14, .bool (decide (a1 < 0))), (13, .int .i64 a1), (5, .int .i64 0), (4, .int .i64 0), (0, .str a0), (1, .int .i64 a1)]
 refine oR 11 (p' := (atN 3 (ctl1 g41p1))) (eE := E1) (H' := (mkH [])) (by kernel_rfl) ?_
 refine oJ (f := fun (z7 : Bool) => if z7 then (some (((-1) : Int), (0 : Int))) else ((nthS a0 (fW .i64 (a1 + 1))).bind fun x1_3 => if (decide (x1_3 = 120)) then ((g79 k a0 a1).bind fun x2_2 => some (x2_2.1, x2_2.2)) else (if (decide (x1_3 = 94)) then ((g80 k a0 a1).bind fun x3_2 => some (x3_2.1, x3_2.2)) else (jn (fun (z8 : Bool) => if z8 then (g41_l9 k a0 a1 k 0 1) else (if (decide (x1_3 = 98)) then (some ((8 : Int), (2 : Int))) else (if (decide (x1_3 = 100)) then (some ((127 : Int), (2 : Int))) else (if (decide (x1_3 = 101)) then (some ((27 : Int), (2 : Int))) else (if (decide (x1_3 = 102)) then (some ((12 : Int), (2 : Int))) else (if (decide (x1_3 = 110)) then (some ((10 : Int), (2 : Int))) else (if (decide (x1_3 = 114)) then (some ((13 : Int), (2 : Int))) else (if (decide (x1_3 = 115)) then (some ((32 : Int), (2 : Int))) else (if (decide (x1_3 = 116)) then (some ((9 : Int), (2 : Int))) else (if (decide (x1_3 = 118)) then (some ((11 : Int), (2 : Int))) else ((g78 k a0 (fW .i64 (a1 + 1))).bind fun x4_3 => if (decide (x4_3.1 < 32)) then (some (((-1) : Int), (0 : Int))) else (some (x4_3.1, fW .i64 (x4_3.2 + 1)))))))))))))) (fun j8 => if (decide (48 ≤ x1_3)) then (j8 (decide (x1_3 ≤ 55))) else (j8 false)))))) g41p2 (fun (z7 : Bool) => [(0, .str a0), (1, .int .i64 a1), (33, .bool z7)]) (fun (z7 : Bool) => (mkH [])) (fun z7 => ?_) (fun j7 hj7 => ?_)
 ·refine oS 33 (b := z7) (by kernel_rfl) (fun hb => ?_) (fun hb => ?_)
  ·let E2 : Env := [(5, .int .i64 0), (4, .int .i64 (-1)), (33, .bool true), (0, .str a0), (1, .int .i64 a1), (33, .bool z7)]
   refine oR 7 (p' := .fin) (eE := E2) (H' := (mkH [])) (by kernel_rfl) ?_
   exact oT (r := (((-1) : Int), (0 : Int))) (xs := [.int .i64 (-1), .int .i64 0]) (v := .tuple [.int .i64 (-1), .int .i64 0]) (by kernel_rfl) (by kernel_rfl) (by kernel_rfl) (.pures (by kernel_rfl)) (by kernel_rfl)
  ·let E3 : Env := [(36, .int .i64 (fW .i64 (a1 + 1))), (35, .int .i64 a1), (34, .str a0), (33, .bool false), (0, .str a0), (1, .int .i64 a1), (33, .bool z7)]
   refine oR 7 (p' := (atN 3 (ctl1 g41p4))) (eE := E3) (H' := (mkH [])) (by kernel_rfl) ?_
   refine oH (fun (x1_3 : Int) => (.int .u8 x1_3, (mkH []))) (atN 4 (ctl1 g41p4)) (fun x1_3 => ((37, .int .u8 x1_3) :: E3)) (idxH (by kernel_rfl)) (fun _ => by kernel_rfl) (fun x1_3 hx1_3 => ?_)
   let E4 : Env := ((38, .bool (decide (x1_3 = 120))) :: (40, .bool (decide (x1_3 = 120))) :: (39, .int .u8 x1_3) :: (6, .int .u8 x1_3) :: (37, .int .u8 x1_3) :: E3)
   refine oR 10 (p' := g41p7) (eE := E4) (H' := (mkH [])) (by kernel_rfl) ?_
   refine oK [0, 1, 6, 38] (eE := [(0, .str a0), (1, .int .i64 a1), (6, .int .u8 x1_3), (38, .bool (decide (x1_3 = 120)))]) (by kernel_rfl) ?_
   refine oS 38 (b := decide (x1_3 = 120)) (by kernel_rfl) (fun hb => ?_) (fun hb => ?_)
   ·let E5 : Env := [(42, .int .i64 a1), (41, .str a0), (38, .bool true), (0, .str a0), (1, .int .i64 a1), (6, .int .u8 x1_3), (38, .bool (decide (x1_3 = 120)))]
    refine oR 5 (p' := (atN 2 (ctl1 g41p8))) (eE := E5) (H' := (mkH [])) (by kernel_rfl) ?_
    refine oC (fun (x2_2 : (Int × Int)) => .tuple [.int .i64 x2_2.1, .int .i64 x2_2.2]) (atN 3 (ctl1 g41p8)) (fun x2_2 => ((43, .tuple [.int .i64 x2_2.1, .int .i64 x2_2.2]) :: E5)) (fi := 79) (args := [.str a0, .int .i64 a1]) (by kernel_rfl) (by kernel_rfl) (fun _ => by kernel_rfl) (fun r h => g79_ok k a0 a1 r h) (fun _ => by kernel_rfl) (fun x2_2 hx2_2 => ?_)
    let E6 : Env := ((5, .int .i64 x2_2.2) :: (4, .int .i64 x2_2.1) :: (45, .int .i64 x2_2.2) :: (44, .int .i64 x2_2.1) :: (43, .tuple [.int .i64 x2_2.1, .int .i64 x2_2.2]) :: E5)
    refine oR 6 (p' := .fin) (eE := E6) (H' := (mkH [])) (by kernel_rfl) ?_
    exact oT (r := (x2_2.1, x2_2.2)) (xs := [.int .i64 x2_2.1, .int .i64 x2_2.2]) (v := .tuple [.int .i64 x2_2.1, .int .i64 x2_2.2]) (by kernel_rfl) (by kernel_rfl) (by kernel_rfl) (.pures (by kernel_rfl)) (by kernel_rfl)
   ·let E7 : Env := [(46, .bool (decide (x1_3 = 94))), (48, .bool (decide (x1_3 = 94))), (47, .int .u8 x1_3), (38, .bool false), (0, .str a0), (1, .int .i64 a1), (6, .int .u8 x1_3), (38, .bool (decide (x1_3 = 120)))]
    refine oR 7 (p' := g41p10) (eE := E7) (H' := (mkH [])) (by kernel_rfl) ?_
    refine oS 46 (b := decide (x1_3 = 94)) (by kernel_rfl) (fun hb => ?_) (fun hb => ?_)
    ·refine oR 5 (p' := (atN 2 (ctl1 g41p11))) (eE := ((50, .int .i64 a1) :: (49, .str a0) :: (46, .bool true) :: E7)) (H' := (mkH [])) (by kernel_rfl) ?_
     refine oC (fun (x3_2 : (Int × Int)) => .tuple [.int .i64 x3_2.1, .int .i64 x3_2.2]) (atN 3 (ctl1 g41p11)) (fun x3_2 => ((51, .tuple [.int .i64 x3_2.1, .int .i64 x3_2.2]) :: (50, .int .i64 a1) :: (49, .str a0) :: (46, .bool true) :: E7)) (fi := 80) (args := [.str a0, .int .i64 a1]) (by kernel_rfl) (by kernel_rfl) (fun _ => by kernel_rfl) (fun r h => g80_ok k a0 a1 r h) (fun _ => by kernel_rfl) (fun x3_2 hx3_2 => ?_)
     let E8 : Env := ((5, .int .i64 x3_2.2) :: (4, .int .i64 x3_2.1) :: (53, .int .i64 x3_2.2) :: (52, .int .i64 x3_2.1) :: (51, .tuple [.int .i64 x3_2.1, .int .i64 x3_2.2]) :: (50, .int .i64 a1) :: (49, .str a0) :: (46, .bool true) :: E7)
     refine oR 6 (p' := .fin) (eE := E8) (H' := (mkH [])) (by kernel_rfl) ?_
     exact oT (r := (x3_2.1, x3_2.2)) (xs := [.int .i64 x3_2.1, .int .i64 x3_2.2]) (v := .tuple [.int .i64 x3_2.1, .int .i64 x3_2.2]) (by kernel_rfl) (by kernel_rfl) (by kernel_rfl) (.pures (by kernel_rfl)) (by kernel_rfl)
    ·refine oR 6 (p' := (atN 3 (ctl1 g41p12))) (eE := ((57, .bool (decide (48 ≤ x1_3))) :: (56, .bool (decide (48 ≤ x1_3))) :: (55, .int .u8 x1_3) :: (46, .bool false) :: E7)) (H' := (mkH [])) (by kernel_rfl) ?_
     refine oJ (f := fun (z8 : Bool) => if z8 then (g41_l9 k a0 a1 k 0 1) else (if (decide (x1_3 = 98)) then (some ((8 : Int), (2 : Int))) else (if (decide (x1_3 = 100)) then (some ((127 : Int), (2 : Int))) else (if (decide (x1_3 = 101)) then (some ((27 : Int), (2 : Int))) else (if (decide (x1_3 = 102)) then (some ((12 : Int), (2 : Int))) else (if (decide (x1_3 = 110)) then (some ((10 : Int), (2 : Int))) else (if (decide (x1_3 = 114)) then (some ((13 : Int), (2 : Int))) else (if (decide (x1_3 = 115)) then (some ((32 : Int), (2 : Int))) else (if (decide (x1_3 = 116)) then (some ((9 : Int), (2 : Int))) else (if (decide (x1_3 = 118)) then (some ((11 : Int), (2 : Int))) else ((g78 k a0 (fW .i64 (a1 + 1))).bind fun x4_3 => if (decide (x4_3.1 < 32)) then (some (((-1) : Int), (0 : Int))) else (some (x4_3.1, fW .i64 (x4_3.2 + 1)))))))))))))) g41p13 (fun (z8 : Bool) => [(0, .str a0), (1, .int .i64 a1), (6, .int .u8 x1_3), (54, .bool z8)]) (fun (z8 : Bool) => (mkH [])) (fun z8 => ?_) (fun j8 hj8 => ?_)
     ·refine oS 54 (b := z8) (by kernel_rfl) (fun hb => ?_) (fun hb => ?_)
      ·let E9 : Env := [(8, .int .i64 1), (7, .int .i64 0), (54, .bool true), (0, .str a0), (1, .int .i64 a1), (6, .int .u8 x1_3), (54, .bool z8)]
       refine oR 9 (p' := g41p16) (eE := E9) (H' := (mkH [])) (by kernel_rfl) ?_
       refine oK [0, 1, 7, 8] (eE := [(0, .str a0), (1, .int .i64 a1), (7, .int .i64 0), (8, .int .i64 1)]) (by kernel_rfl) ?_
       exact (g41_l9_ok k a0 a1 k) 0 1
      ·let E18 : Env := [(54, .bool false), (0, .str a0), (1, .int .i64 a1), (6, .int .u8 x1_3), (54, .bool z8)]
       refine oR 5 (p' := (atN 0 (ctl1 g41p15))) (eE := E18) (H' := (mkH [])) (by kernel_rfl) ?_
       refine ok_range 93 (⟨#[98, 100, 101, 102, 110, 114, 115, 116, 118]⟩ : ByteArray) (by kernel_rfl) ?_
       refine okI_at (p' := (atN 1 (ctl1 g41p15))) (by kernel_rfl) ?_
       refine oI 3 (p' := g41p17) (eE := ((93, .top) :: E18)) (H' := (mkH [])) (by kernel_rfl) ?_
       refine okI_ent (p' := nav [0] g41p17) (by kernel_rfl) ?_
       refine oI 2 (p' := (atN 0 (ctl1 g41p19))) (eE := ((93, .top) :: E18)) (H' := (mkH [])) (by kernel_rfl) ?_
       refine okI_next 94 (by kernel_rfl) rfl 98 1 (by kernel_rfl) ?_
       refine okI_at (p' := (atN 1 (ctl1 g41p19))) (by kernel_rfl) ?_
       let E19 : Env := ((101, .bool (decide (x1_3 = 98))) :: (100, .int .u8 98) :: (99, .int .i32 98) :: (98, .int .u8 x1_3) :: (10, .int .i32 98) :: (9, .int .i64 0) :: (97, .int .i32 98) :: (96, .int .i64 0) :: (95, .bool true) :: (94, .tuple [.bool true, .int .i64 0, .int .i32 98]) :: (93, .top) :: E18)
       refine oI 20 (p' := g41p29) (eE := E19) (H' := (mkH [])) (by kernel_rfl) ?_
       refine okI_split 101 (b := decide (x1_3 = 98)) (by kernel_rfl) (fun hb => ?_) (fun hb => ?_)
       ·let E20 : Env := ((5, .int .i64 2) :: (4, .int .i64 8) :: (104, .int .i64 8) :: (103, .int .i64 0) :: (102, .agg [.int .i64 8, .int .i64 127, .int .i64 27, .int .i64 12, .int .i64 10, .int .i64 13, .int .i64 32, .int .i64 9, .int .i64 11]) :: (101, .bool true) :: E19)
        refine oI 10 (p' := .fin) (eE := E20) (H' := (mkH [])) (by kernel_rfl) ?_
        refine okI_drop ?_
        exact oT (r := ((8 : Int), (2 : Int))) (xs := [.int .i64 8, .int .i64 2]) (v := .tuple [.int .i64 8, .int .i64 2]) (by kernel_rfl) (by kernel_rfl) (by kernel_rfl) (.pures (by kernel_rfl)) (by kernel_rfl)
       ·refine oI 2 (p' := g41p17) (eE := ((101, .bool false) :: E19)) (H' := (mkH [])) (by kernel_rfl) ?_
        refine okI_ent (p' := nav [0] g41p17) (by kernel_rfl) ?_
        refine oI 2 (p' := (atN 0 (ctl1 g41p19))) (eE := ((101, .bool false) :: E19)) (H' := (mkH [])) (by kernel_rfl) ?_
        refine okI_next 94 (by kernel_rfl) rfl 100 1 (by kernel_rfl) ?_
        refine okI_at (p' := (atN 1 (ctl1 g41p19))) (by kernel_rfl) ?_
        let E21 : Env := ((101, .bool (decide (x1_3 = 100))) :: (100, .int .u8 100) :: (99, .int .i32 100) :: (98, .int .u8 x1_3) :: (10, .int .i32 100) :: (9, .int .i64 1) :: (97, .int .i32 100) :: (96, .int .i64 1) :: (95, .bool true) :: (94, .tuple [.bool true, .int .i64 1, .int .i32 100]) :: (101, .bool false) :: E19)
        refine oI 20 (p' := g41p29) (eE := E21) (H' := (mkH [])) (by kernel_rfl) ?_
        refine okI_split 101 (b := decide (x1_3 = 100)) (by kernel_rfl) (fun hb => ?_) (fun hb => ?_)
        ·let E22 : Env := ((5, .int .i64 2) :: (4, .int .i64 127) :: (104, .int .i64 127) :: (103, .int .i64 1) :: (102, .agg [.int .i64 8, .int .i64 127, .int .i64 27, .int .i64 12, .int .i64 10, .int .i64 13, .int .i64 32, .int .i64 9, .int .i64 11]) :: (101, .bool true) :: E21)
         refine oI 10 (p' := .fin) (eE := E22) (H' := (mkH [])) (by kernel_rfl) ?_
         refine okI_drop ?_
         exact oT (r := ((127 : Int), (2 : Int))) (xs := [.int .i64 127, .int .i64 2]) (v := .tuple [.int .i64 127, .int .i64 2]) (by kernel_rfl) (by kernel_rfl) (by kernel_rfl) (.pures (by kernel_rfl)) (by kernel_rfl)
        ·refine oI 2 (p' := g41p17) (eE := ((101, .bool false) :: E21)) (H' := (mkH [])) (by kernel_rfl) ?_
         refine okI_ent (p' := nav [0] g41p17) (by kernel_rfl) ?_
         refine oI 2 (p' := (atN 0 (ctl1 g41p19))) (eE := ((101, .bool false) :: E21)) (H' := (mkH [])) (by kernel_rfl) ?_
         refine okI_next 94 (by kernel_rfl) rfl 101 1 (by kernel_rfl) ?_
         refine okI_at (p' := (atN 1 (ctl1 g41p19))) (by kernel_rfl) ?_
         let E23 : Env := ((101, .bool (decide (x1_3 = 101))) :: (100, .int .u8 101) :: (99, .int .i32 101) :: (98, .int .u8 x1_3) :: (10, .int .i32 101) :: (9, .int .i64 2) :: (97, .int .i32 101) :: (96, .int .i64 2) :: (95, .bool true) :: (94, .tuple [.bool true, .int .i64 2, .int .i32 101]) :: (101, .bool false) :: E21)
         refine oI 20 (p' := g41p29) (eE := E23) (H' := (mkH [])) (by kernel_rfl) ?_
         refine okI_split 101 (b := decide (x1_3 = 101)) (by kernel_rfl) (fun hb => ?_) (fun hb => ?_)
         ·let E24 : Env := ((5, .int .i64 2) :: (4, .int .i64 27) :: (104, .int .i64 27) :: (103, .int .i64 2) :: (102, .agg [.int .i64 8, .int .i64 127, .int .i64 27, .int .i64 12, .int .i64 10, .int .i64 13, .int .i64 32, .int .i64 9, .int .i64 11]) :: (101, .bool true) :: E23)
          refine oI 10 (p' := .fin) (eE := E24) (H' := (mkH [])) (by kernel_rfl) ?_
          refine okI_drop ?_
          exact oT (r := ((27 : Int), (2 : Int))) (xs := [.int .i64 27, .int .i64 2]) (v := .tuple [.int .i64 27, .int .i64 2]) (by kernel_rfl) (by kernel_rfl) (by kernel_rfl) (.pures (by kernel_rfl)) (by kernel_rfl)
         ·refine oI 2 (p' := g41p17) (eE := ((101, .bool false) :: E23)) (H' := (mkH [])) (by kernel_rfl) ?_
          refine okI_ent (p' := nav [0] g41p17) (by kernel_rfl) ?_
          refine oI 2 (p' := (atN 0 (ctl1 g41p19))) (eE := ((101, .bool false) :: E23)) (H' := (mkH [])) (by kernel_rfl) ?_
          refine okI_next 94 (by kernel_rfl) rfl 102 1 (by kernel_rfl) ?_
          refine okI_at (p' := (atN 1 (ctl1 g41p19))) (by kernel_rfl) ?_
          let E25 : Env := ((101, .bool (decide (x1_3 = 102))) :: (100, .int .u8 102) :: (99, .int .i32 102) :: (98, .int .u8 x1_3) :: (10, .int .i32 102) :: (9, .int .i64 3) :: (97, .int .i32 102) :: (96, .int .i64 3) :: (95, .bool true) :: (94, .tuple [.bool true, .int .i64 3, .int .i32 102]) :: (101, .bool false) :: E23)
          refine oI 20 (p' := g41p29) (eE := E25) (H' := (mkH [])) (by kernel_rfl) ?_
          refine okI_split 101 (b := decide (x1_3 = 102)) (by kernel_rfl) (fun hb => ?_) (fun hb => ?_)
          ·let E26 : Env := ((5, .int .i64 2) :: (4, .int .i64 12) :: (104, .int .i64 12) :: (103, .int .i64 3) :: (102, .agg [.int .i64 8, .int .i64 127, .int .i64 27, .int .i64 12, .int .i64 10, .int .i64 13, .int .i64 32, .int .i64 9, .int .i64 11]) :: (101, .bool true) :: E25)
           refine oI 10 (p' := .fin) (eE := E26) (H' := (mkH [])) (by kernel_rfl) ?_
           refine okI_drop ?_
           exact oT (r := ((12 : Int), (2 : Int))) (xs := [.int .i64 12, .int .i64 2]) (v := .tuple [.int .i64 12, .int .i64 2]) (by kernel_rfl) (by kernel_rfl) (by kernel_rfl) (.pures (by kernel_rfl)) (by kernel_rfl)
          ·refine oI 2 (p' := g41p17) (eE := ((101, .bool false) :: E25)) (H' := (mkH [])) (by kernel_rfl) ?_
           refine okI_ent (p' := nav [0] g41p17) (by kernel_rfl) ?_
           refine oI 2 (p' := (atN 0 (ctl1 g41p19))) (eE := ((101, .bool false) :: E25)) (H' := (mkH [])) (by kernel_rfl) ?_
           refine okI_next 94 (by kernel_rfl) rfl 110 1 (by kernel_rfl) ?_
           refine okI_at (p' := (atN 1 (ctl1 g41p19))) (by kernel_rfl) ?_
           let E27 : Env := ((101, .bool (decide (x1_3 = 110))) :: (100, .int .u8 110) :: (99, .int .i32 110) :: (98, .int .u8 x1_3) :: (10, .int .i32 110) :: (9, .int .i64 4) :: (97, .int .i32 110) :: (96, .int .i64 4) :: (95, .bool true) :: (94, .tuple [.bool true, .int .i64 4, .int .i32 110]) :: (101, .bool false) :: E25)
           refine oI 20 (p' := g41p29) (eE := E27) (H' := (mkH [])) (by kernel_rfl) ?_
           refine okI_split 101 (b := decide (x1_3 = 110)) (by kernel_rfl) (fun hb => ?_) (fun hb => ?_)
           ·let E28 : Env := ((5, .int .i64 2) :: (4, .int .i64 10) :: (104, .int .i64 10) :: (103, .int .i64 4) :: (102, .agg [.int .i64 8, .int .i64 127, .int .i64 27, .int .i64 12, .int .i64 10, .int .i64 13, .int .i64 32, .int .i64 9, .int .i64 11]) :: (101, .bool true) :: E27)
            refine oI 10 (p' := .fin) (eE := E28) (H' := (mkH [])) (by kernel_rfl) ?_
            refine okI_drop ?_
            exact oT (r := ((10 : Int), (2 : Int))) (xs := [.int .i64 10, .int .i64 2]) (v := .tuple [.int .i64 10, .int .i64 2]) (by kernel_rfl) (by kernel_rfl) (by kernel_rfl) (.pures (by kernel_rfl)) (by kernel_rfl)
           ·refine oI 2 (p' := g41p17) (eE := ((101, .bool false) :: E27)) (H' := (mkH [])) (by kernel_rfl) ?_
            refine okI_ent (p' := nav [0] g41p17) (by kernel_rfl) ?_
            refine oI 2 (p' := (atN 0 (ctl1 g41p19))) (eE := ((101, .bool false) :: E27)) (H' := (mkH [])) (by kernel_rfl) ?_
            refine okI_next 94 (by kernel_rfl) rfl 114 1 (by kernel_rfl) ?_
            refine okI_at (p' := (atN 1 (ctl1 g41p19))) (by kernel_rfl) ?_
            let E29 : Env := ((101, .bool (decide (x1_3 = 114))) :: (100, .int .u8 114) :: (99, .int .i32 114) :: (98, .int .u8 x1_3) :: (10, .int .i32 114) :: (9, .int .i64 5) :: (97, .int .i32 114) :: (96, .int .i64 5) :: (95, .bool true) :: (94, .tuple [.bool true, .int .i64 5, .int .i32 114]) :: (101, .bool false) :: E27)
            refine oI 20 (p' := g41p29) (eE := E29) (H' := (mkH [])) (by kernel_rfl) ?_
            refine okI_split 101 (b := decide (x1_3 = 114)) (by kernel_rfl) (fun hb => ?_) (fun hb => ?_)
            ·let E30 : Env := ((5, .int .i64 2) :: (4, .int .i64 13) :: (104, .int .i64 13) :: (103, .int .i64 5) :: (102, .agg [.int .i64 8, .int .i64 127, .int .i64 27, .int .i64 12, .int .i64 10, .int .i64 13, .int .i64 32, .int .i64 9, .int .i64 11]) :: (101, .bool true) :: E29)
             refine oI 10 (p' := .fin) (eE := E30) (H' := (mkH [])) (by kernel_rfl) ?_
             refine okI_drop ?_
             exact oT (r := ((13 : Int), (2 : Int))) (xs := [.int .i64 13, .int .i64 2]) (v := .tuple [.int .i64 13, .int .i64 2]) (by kernel_rfl) (by kernel_rfl) (by kernel_rfl) (.pures (by kernel_rfl)) (by kernel_rfl)
            ·refine oI 2 (p' := g41p17) (eE := ((101, .bool false) :: E29)) (H' := (mkH [])) (by kernel_rfl) ?_
             refine okI_ent (p' := nav [0] g41p17) (by kernel_rfl) ?_
             refine oI 2 (p' := (atN 0 (ctl1 g41p19))) (eE := ((101, .bool false) :: E29)) (H' := (mkH [])) (by kernel_rfl) ?_
             refine okI_next 94 (by kernel_rfl) rfl 115 1 (by kernel_rfl) ?_
             refine okI_at (p' := (atN 1 (ctl1 g41p19))) (by kernel_rfl) ?_
             let E31 : Env := ((101, .bool (decide (x1_3 = 115))) :: (100, .int .u8 115) :: (99, .int .i32 115) :: (98, .int .u8 x1_3) :: (10, .int .i32 115) :: (9, .int .i64 6) :: (97, .int .i32 115) :: (96, .int .i64 6) :: (95, .bool true) :: (94, .tuple [.bool true, .int .i64 6, .int .i32 115]) :: (101, .bool false) :: E29)
             refine oI 20 (p' := g41p29) (eE := E31) (H' := (mkH [])) (by kernel_rfl) ?_
             refine okI_split 101 (b := decide (x1_3 = 115)) (by kernel_rfl) (fun hb => ?_) (fun hb => ?_)
             ·let E32 : Env := ((5, .int .i64 2) :: (4, .int .i64 32) :: (104, .int .i64 32) :: (103, .int .i64 6) :: (102, .agg [.int .i64 8, .int .i64 127, .int .i64 27, .int .i64 12, .int .i64 10, .int .i64 13, .int .i64 32, .int .i64 9, .int .i64 11]) :: (101, .bool true) :: E31)
              refine oI 10 (p' := .fin) (eE := E32) (H' := (mkH [])) (by kernel_rfl) ?_
              refine okI_drop ?_
              exact oT (r := ((32 : Int), (2 : Int))) (xs := [.int .i64 32, .int .i64 2]) (v := .tuple [.int .i64 32, .int .i64 2]) (by kernel_rfl) (by kernel_rfl) (by kernel_rfl) (.pures (by kernel_rfl)) (by kernel_rfl)
             ·refine oI 2 (p' := g41p17) (eE := ((101, .bool false) :: E31)) (H' := (mkH [])) (by kernel_rfl) ?_
              refine okI_ent (p' := nav [0] g41p17) (by kernel_rfl) ?_
              refine oI 2 (p' := (atN 0 (ctl1 g41p19))) (eE := ((101, .bool false) :: E31)) (H' := (mkH [])) (by kernel_rfl) ?_
              refine okI_next 94 (by kernel_rfl) rfl 116 1 (by kernel_rfl) ?_
              refine okI_at (p' := (atN 1 (ctl1 g41p19))) (by kernel_rfl) ?_
              let E33 : Env := ((101, .bool (decide (x1_3 = 116))) :: (100, .int .u8 116) :: (99, .int .i32 116) :: (98, .int .u8 x1_3) :: (10, .int .i32 116) :: (9, .int .i64 7) :: (97, .int .i32 116) :: (96, .int .i64 7) :: (95, .bool true) :: (94, .tuple [.bool true, .int .i64 7, .int .i32 116]) :: (101, .bool false) :: E31)
              refine oI 20 (p' := g41p29) (eE := E33) (H' := (mkH [])) (by kernel_rfl) ?_
              refine okI_split 101 (b := decide (x1_3 = 116)) (by kernel_rfl) (fun hb => ?_) (fun hb => ?_)
              ·let E34 : Env := ((5, .int .i64 2) :: (4, .int .i64 9) :: (104, .int .i64 9) :: (103, .int .i64 7) :: (102, .agg [.int .i64 8, .int .i64 127, .int .i64 27, .int .i64 12, .int .i64 10, .int .i64 13, .int .i64 32, .int .i64 9, .int .i64 11]) :: (101, .bool true) :: E33)
               refine oI 10 (p' := .fin) (eE := E34) (H' := (mkH [])) (by kernel_rfl) ?_
               refine okI_drop ?_
               exact oT (r := ((9 : Int), (2 : Int))) (xs := [.int .i64 9, .int .i64 2]) (v := .tuple [.int .i64 9, .int .i64 2]) (by kernel_rfl) (by kernel_rfl) (by kernel_rfl) (.pures (by kernel_rfl)) (by kernel_rfl)
              ·refine oI 2 (p' := g41p17) (eE := ((101, .bool false) :: E33)) (H' := (mkH [])) (by kernel_rfl) ?_
               refine okI_ent (p' := nav [0] g41p17) (by kernel_rfl) ?_
               refine oI 2 (p' := (atN 0 (ctl1 g41p19))) (eE := ((101, .bool false) :: E33)) (H' := (mkH [])) (by kernel_rfl) ?_
               refine okI_next 94 (by kernel_rfl) rfl 118 1 (by kernel_rfl) ?_
               refine okI_at (p' := (atN 1 (ctl1 g41p19))) (by kernel_rfl) ?_
               let E35 : Env := ((101, .bool (decide (x1_3 = 118))) :: (100, .int .u8 118) :: (99, .int .i32 118) :: (98, .int .u8 x1_3) :: (10, .int .i32 118) :: (9, .int .i64 8) :: (97, .int .i32 118) :: (96, .int .i64 8) :: (95, .bool true) :: (94, .tuple [.bool true, .int .i64 8, .int .i32 118]) :: (101, .bool false) :: E33)
               refine oI 20 (p' := g41p29) (eE := E35) (H' := (mkH [])) (by kernel_rfl) ?_
               refine okI_split 101 (b := decide (x1_3 = 118)) (by kernel_rfl) (fun hb => ?_) (fun hb => ?_)
               ·let E36 : Env := ((5, .int .i64 2) :: (4, .int .i64 11) :: (104, .int .i64 11) :: (103, .int .i64 8) :: (102, .agg [.int .i64 8, .int .i64 127, .int .i64 27, .int .i64 12, .int .i64 10, .int .i64 13, .int .i64 32, .int .i64 9, .int .i64 11]) :: (101, .bool true) :: E35)
                refine oI 10 (p' := .fin) (eE := E36) (H' := (mkH [])) (by kernel_rfl) ?_
                refine okI_drop ?_
                exact oT (r := ((11 : Int), (2 : Int))) (xs := [.int .i64 11, .int .i64 2]) (v := .tuple [.int .i64 11, .int .i64 2]) (by kernel_rfl) (by kernel_rfl) (by kernel_rfl) (.pures (by kernel_rfl)) (by kernel_rfl)
               ·refine oI 2 (p' := g41p17) (eE := ((101, .bool false) :: E35)) (H' := (mkH [])) (by kernel_rfl) ?_
                refine okI_ent (p' := nav [0] g41p17) (by kernel_rfl) ?_
                refine oI 2 (p' := (atN 0 (ctl1 g41p19))) (eE := ((101, .bool false) :: E35)) (H' := (mkH [])) (by kernel_rfl) ?_
                refine okI_over 94 (by kernel_rfl) rfl ?_
                refine okI_drop ?_
                refine ok_at (p' := (atN 1 (ctl1 g41p19))) (by kernel_rfl) ?_
                refine oR 3 (p' := g41p21) (eE := ((95, .bool false) :: (94, .tuple [.bool false]) :: (101, .bool false) :: E35)) (H' := (mkH [])) (by kernel_rfl) ?_
                refine oK [0, 1, 6, 94, 95] (eE := [(0, .str a0), (1, .int .i64 a1), (6, .int .u8 x1_3), (94, .tuple [.bool false]), (95, .bool false)]) (by kernel_rfl) ?_
                let E37 : Env := [(108, .int .i64 (fW .i64 (a1 + 1))), (107, .int .i64 a1), (106, .str a0), (0, .str a0), (1, .int .i64 a1), (6, .int .u8 x1_3), (94, .tuple [.bool false]), (95, .bool false)]
                refine oR 7 (p' := (atN 3 (ctl1 g41p25))) (eE := E37) (H' := (mkH [])) (by kernel_rfl) ?_
                refine oC (fun (x4_3 : (Int × Int)) => .tuple [.int .i64 x4_3.1, .int .i64 x4_3.2]) (atN 4 (ctl1 g41p25)) (fun x4_3 => ((109, .tuple [.int .i64 x4_3.1, .int .i64 x4_3.2]) :: E37)) (fi := 78) (args := [.str a0, .int .i64 (fW .i64 (a1 + 1))]) (by kernel_rfl) (by kernel_rfl) (fun _ => by kernel_rfl) (fun r h => g78_ok k a0 (fW .i64 (a1 + 1)) r h) (fun _ => by kernel_rfl) (fun x4_3 hx4_3 => ?_)
                let E38 : Env := ((12, .int .i64 x4_3.2) :: (11, .int .i64 x4_3.1) :: (111, .int .i64 x4_3.2) :: (110, .int .i64 x4_3.1) :: (105, .tuple [.int .i64 x4_3.1, .int .i64 x4_3.2]) :: (109, .tuple [.int .i64 x4_3.1, .int .i64 x4_3.2]) :: E37)
                refine oR 8 (p' := g41p28) (eE := E38) (H' := (mkH [])) (by kernel_rfl) ?_
                refine oK [11, 12] (eE := [(11, .int .i64 x4_3.1), (12, .int .i64 x4_3.2)]) (by kernel_rfl) ?_
                refine oR 4 (p' := g41p30) (eE := [(113, .bool (decide (x4_3.1 < 32))), (112, .int .i64 x4_3.1), (11, .int .i64 x4_3.1), (12, .int .i64 x4_3.2)]) (H' := (mkH [])) (by kernel_rfl) ?_
                refine oS 113 (b := decide (x4_3.1 < 32)) (by kernel_rfl) (fun hb => ?_) (fun hb => ?_)
                ·let E39 : Env := [(5, .int .i64 0), (4, .int .i64 (-1)), (113, .bool true), (113, .bool (decide (x4_3.1 < 32))), (112, .int .i64 x4_3.1), (11, .int .i64 x4_3.1), (12, .int .i64 x4_3.2)]
                 refine oR 7 (p' := .fin) (eE := E39) (H' := (mkH [])) (by kernel_rfl) ?_
                 exact oT (r := (((-1) : Int), (0 : Int))) (xs := [.int .i64 (-1), .int .i64 0]) (v := .tuple [.int .i64 (-1), .int .i64 0]) (by kernel_rfl) (by kernel_rfl) (by kernel_rfl) (.pures (by kernel_rfl)) (by kernel_rfl)
                ·let E40 : Env := [(5, .int .i64 (fW .i64 (x4_3.2 + 1))), (4, .int .i64 x4_3.1), (116, .int .i64 (fW .i64 (x4_3.2 + 1))), (115, .int .i64 x4_3.2), (114, .int .i64 x4_3.1), (113, .bool false), (113, .bool (decide (x4_3.1 < 32))), (112, .int .i64 x4_3.1), (11, .int .i64 x4_3.1), (12, .int .i64 x4_3.2)]
                 refine oR 11 (p' := .fin) (eE := E40) (H' := (mkH [])) (by kernel_rfl) ?_
                 exact oT (r := (x4_3.1, fW .i64 (x4_3.2 + 1))) (xs := [.int .i64 x4_3.1, .int .i64 (fW .i64 (x4_3.2 + 1))]) (v := .tuple [.int .i64 x4_3.1, .int .i64 (fW .i64 (x4_3.2 + 1))]) (by kernel_rfl) (by kernel_rfl) (by kernel_rfl) (.pures (by kernel_rfl)) (by kernel_rfl)
     ·refine oS 57 (b := decide (48 ≤ x1_3)) (by kernel_rfl) (fun hb => ?_) (fun hb => ?_)
      ·let E41 : Env := ((54, .bool (decide (x1_3 ≤ 55))) :: (60, .bool (decide (x1_3 ≤ 55))) :: (59, .bool (decide (x1_3 ≤ 55))) :: (58, .int .u8 x1_3) :: (57, .bool true) :: (57, .bool (decide (48 ≤ x1_3))) :: (56, .bool (decide (48 ≤ x1_3))) :: (55, .int .u8 x1_3) :: (46, .bool false) :: E7)
       refine oR 5 (p' := g41p13) (eE := E41) (H' := (mkH [])) (by kernel_rfl) ?_
       refine oK [0, 1, 6, 54] (eE := [(0, .str a0), (1, .int .i64 a1), (6, .int .u8 x1_3), (54, .bool (decide (x1_3 ≤ 55)))]) (by kernel_rfl) ?_
       exact hj8 (decide (x1_3 ≤ 55))
      ·let E42 : Env := ((54, .bool false) :: (60, .bool false) :: (59, .tuple []) :: (58, .tuple []) :: (57, .bool false) :: (57, .bool (decide (48 ≤ x1_3))) :: (56, .bool (decide (48 ≤ x1_3))) :: (55, .int .u8 x1_3) :: (46, .bool false) :: E7)
       refine oR 5 (p' := g41p13) (eE := E42) (H' := (mkH [])) (by kernel_rfl) ?_
       refine oK [0, 1, 6, 54] (eE := [(0, .str a0), (1, .int .i64 a1), (6, .int .u8 x1_3), (54, .bool false)]) (by kernel_rfl) ?_
       exact hj8 false
 ·refine oS 15 (b := decide (a1 < 0)) (by kernel_rfl) (fun hb => ?_) (fun hb => ?_)
  ·let E43 : Env := ((33, .bool true) :: (32, .tuple []) :: (31, .tuple []) :: (30, .tuple []) :: (29, .tuple []) :: (28, .tuple []) :: (27, .bool true) :: (26, .bool true) :: (25, .tuple []) :: (24, .tuple []) :: (23, .tuple []) :: (22, .tuple []) :: (21, .bool true) :: (20, .bool true) :: (19, .tuple []) :: (18, .tuple []) :: (17, .tuple []) :: (16, .tuple []) :: (15, .bool true) :: E1)
   refine oR 19 (p' := g41p2) (eE := E43) (H' := (mkH [])) (by kernel_rfl) ?_
   refine oK [0, 1, 33] (eE := [(0, .str a0), (1, .int .i64 a1), (33, .bool true)]) (by kernel_rfl) ?_
   exact hj7 true
  ·let E44 : Env := ((21, .bool (decide ((a0.length : Int) ≤ a1))) :: (20, .bool (decide ((a0.length : Int) ≤ a1))) :: (19, .bool (decide ((a0.length : Int) ≤ a1))) :: (18, .int .i64 (a0.length : Int)) :: (17, .str a0) :: (16, .int .i64 a1) :: (15, .bool false) :: E1)
   refine oR 6 (p' := (atN 9 (ctl1 g41p1))) (eE := E44) (H' := (mkH [])) (by kernel_rfl) ?_
   refine oS 21 (b := decide ((a0.length : Int) ≤ a1)) (by kernel_rfl) (fun hb => ?_) (fun hb => ?_)
   ·let E45 : Env := ((33, .bool true) :: (32, .tuple []) :: (31, .tuple []) :: (30, .tuple []) :: (29, .tuple []) :: (28, .tuple []) :: (27, .bool true) :: (26, .bool true) :: (25, .tuple []) :: (24, .tuple []) :: (23, .tuple []) :: (22, .tuple []) :: (21, .bool true) :: E44)
    refine oR 13 (p' := g41p2) (eE := E45) (H' := (mkH [])) (by kernel_rfl) ?_
    refine oK [0, 1, 33] (eE := [(0, .str a0), (1, .int .i64 a1), (33, .bool true)]) (by kernel_rfl) ?_
    exact hj7 true
   ·refine oR 2 (p' := (atN 11 (ctl1 g41p1))) (eE := ((23, .int .i64 a1) :: (22, .str a0) :: (21, .bool false) :: E44)) (H' := (mkH [])) (by kernel_rfl) ?_
    refine oH (fun (x0_11 : Int) => (.int .u8 x0_11, (mkH []))) (atN 12 (ctl1 g41p1)) (fun x0_11 => ((24, .int .u8 x0_11) :: (23, .int .i64 a1) :: (22, .str a0) :: (21, .bool false) :: E44)) (idxH (by kernel_rfl)) (fun _ => by kernel_rfl) (fun x0_11 hx0_11 => ?_)
    let E46 : Env := ((27, .bool (!decide (x0_11 = 92))) :: (26, .bool (!decide (x0_11 = 92))) :: (25, .bool (!decide (x0_11 = 92))) :: (24, .int .u8 x0_11) :: (23, .int .i64 a1) :: (22, .str a0) :: (21, .bool false) :: E44)
    refine oR 3 (p' := (atN 15 (ctl1 g41p1))) (eE := E46) (H' := (mkH [])) (by kernel_rfl) ?_
    refine oS 27 (b := !decide (x0_11 = 92)) (by kernel_rfl) (fun hb => ?_) (fun hb => ?_)
    ·let E47 : Env := ((33, .bool true) :: (32, .tuple []) :: (31, .tuple []) :: (30, .tuple []) :: (29, .tuple []) :: (28, .tuple []) :: (27, .bool true) :: E46)
     refine oR 7 (p' := g41p2) (eE := E47) (H' := (mkH [])) (by kernel_rfl) ?_
     refine oK [0, 1, 33] (eE := [(0, .str a0), (1, .int .i64 a1), (33, .bool true)]) (by kernel_rfl) ?_
     exact hj7 true
    ·let E48 : Env := ((33, .bool (decide ((a0.length : Int) ≤ fW .i64 (a1 + 1)))) :: (32, .bool (decide ((a0.length : Int) ≤ fW .i64 (a1 + 1)))) :: (31, .int .i64 (a0.length : Int)) :: (30, .str a0) :: (29, .int .i64 (fW .i64 (a1 + 1))) :: (28, .int .i64 a1) :: (27, .bool false) :: E46)
     refine oR 7 (p' := g41p2) (eE := E48) (H' := (mkH [])) (by kernel_rfl) ?_
     refine oK [0, 1, 33] (eE := [(0, .str a0), (1, .int .i64 a1), (33, .bool (decide ((a0.length : Int) ≤ fW .i64 (a1 + 1))))]) (by kernel_rfl) ?_
     exact hj7 (decide ((a0.length : Int) ≤ fW .i64 (a1 + 1)))
end
end Go.Proofs.Ytabhkocokojddaa.Am
set_option maxRecDepth 100000
set_option linter.unusedVariables false
namespace Go.Proofs.Ytabhkocokojddaa.Am
noncomputable section
open Go
def g81_l2 (k : Nat)  (a0 : (List Nat)) (a1 : Int) (a2 : Int) (a3 : Int) (n : Nat) : Int → Int → Option (Int × Int) :=
 Nat.rec (motive := fun _ => Int → Int → Option (Int × Int)) (fun _ _ => none) (fun _ ih => fun (y2_0 : Int) (y2_1 : Int) => jn (fun (z3 : Bool × Int × Int) => if z3.1 then ((nthS a0 (fW .i64 (a1 + z3.2.2))).bind fun x1_7 => (g77 k x1_7 a2).bind fun x1_9 => ih (fW .i64 (fW .i64 (z3.2.1 * a2) + x1_9)) (fW .i64 (z3.2.2 + 1))) else (some (z3.2.1, z3.2.2))) (fun j3 => if (decide (y2_1 < a3)) then (if (decide (fW .i64 (a1 + y2_1) < (a0.length : Int))) then ((nthS a0 (fW .i64 (a1 + y2_1))).bind fun x0_16 => (g77 k x0_16 a2).bind fun x0_18 => j3 (decide (0 ≤ x0_18), y2_0, y2_1)) else (j3 (false, y2_0, y2_1))) else (j3 (false, y2_0, y2_1)))) n
theorem g81_l2_s (k : Nat)  (a0 : (List Nat)) (a1 : Int) (a2 : Int) (a3 : Int) (n : Nat) (y2_0 : Int) (y2_1 : Int) : g81_l2 k a0 a1 a2 a3 (n + 1) y2_0 y2_1 = (jn (fun (z3 : Bool × Int × Int) => if z3.1 then ((nthS a0 (fW .i64 (a1 + z3.2.2))).bind fun x1_7 => (g77 k x1_7 a2).bind fun x1_9 => (g81_l2 k a0 a1 a2 a3 n) (fW .i64 (fW .i64 (z3.2.1 * a2) + x1_9)) (fW .i64 (z3.2.2 + 1))) else (some (z3.2.1, z3.2.2))) (fun j3 => if (decide (y2_1 < a3)) then (if (decide (fW .i64 (a1 + y2_1) < (a0.length : Int))) then ((nthS a0 (fW .i64 (a1 + y2_1))).bind fun x0_16 => (g77 k x0_16 a2).bind fun x0_18 => j3 (decide (0 ≤ x0_18), y2_0, y2_1)) else (j3 (false, y2_0, y2_1))) else (j3 (false, y2_0, y2_1)))) := rfl
def g81 (k : Nat) (a0 : (List Nat)) (a1 : Int) (a2 : Int) (a3 : Int) : Option (Int × Int) :=
 g81_l2 k a0 a1 a2 a3 k 0 0
end
end Go.Proofs.Ytabhkocokojddaa.Am
set_option maxRecDepth 100000
set_option linter.unusedVariables false
namespace Go.Proofs.Ytabhkocokojddaa.Am
noncomputable section
open Go
def g42c0 : List Int := [(8 : Int), (127 : Int), (27 : Int), (12 : Int), (10 : Int), (13 : Int), (32 : Int), (9 : Int), (11 : Int)]
def g42c1 : List Nat := [98, 100, 101, 102, 110, 114, 115, 116, 118]
def g42_l13 (k : Nat)  (a0 : (List Nat)) (a1 : Int) (x1_3 : Int) (n : Nat) : Int → Option (Int × Int) :=
 Nat.rec (motive := fun _ => Int → Option (Int × Int)) (fun _ => none) (fun _ ih => fun (y13_0 : Int) => if (decide (y13_0 < 9)) then ((nthS g42c1 y13_0).bind fun x3_2 => if (decide (x3_2 = x1_3)) then ((nthL g42c0 y13_0).bind fun x2_2 => some (x2_2, (2 : Int))) else (ih (fW .i64 (y13_0 + 1)))) else (jn (fun (z14 : Bool) => if z14 then ((g81 k a0 (fW .i64 (a1 + 1)) (8 : Int) (3 : Int)).bind fun x4_3 => some (x4_3.1, fW .i64 (1 + x4_3.2))) else (jn (fun (z15 : Bool) => if z15 then ((g81 k a0 (fW .i64 (a1 + 3)) (16 : Int) (6 : Int)).bind fun x6_3 => jn (fun (z16 : Bool) => if z16 then (some (((-1) : Int), (0 : Int))) else (some (x6_3.1, fW .i64 (4 + x6_3.2)))) (fun j16 => if (decide (x6_3.2 = 0)) then (j16 true) else (if (decide ((a0.length : Int) ≤ fW .i64 (fW .i64 (a1 + 3) + x6_3.2))) then (j16 true) else ((nthS a0 (fW .i64 (fW .i64 (a1 + 3) + x6_3.2))).bind fun x7_17 => if (!decide (x7_17 = 125)) then (j16 true) else ((g82 k x6_3.1).bind fun x7_22 => j16 (!x7_22)))))) else (if (decide (x1_3 = 120)) then ((g81 k a0 (fW .i64 (a1 + 2)) (16 : Int) (2 : Int)).bind fun x8_3 => if (decide (x8_3.2 < 2)) then (some (((-1) : Int), (0 : Int))) else (some (x8_3.1, (4 : Int)))) else (if (decide (x1_3 = 94)) then (jn (fun (z17 : Bool) => if z17 then (some (((-1) : Int), (0 : Int))) else ((nthS a0 (fW .i64 (a1 + 2))).bind fun x11_3 => some (andI .i64 (fW .i64 x11_3) 31, (3 : Int)))) (fun j17 => if (decide ((a0.length : Int) ≤ fW .i64 (a1 + 2))) then (j17 true) else ((nthS a0 (fW .i64 (a1 + 2))).bind fun x9_9 => if (decide (64 ≤ x9_9)) then ((nthS a0 (fW .i64 (a1 + 2))).bind fun x9_15 => if (decide (x9_15 ≤ 95)) then (j17 false) else ((nthS a0 (fW .i64 (a1 + 2))).bind fun x9_22 => if (decide (97 ≤ x9_22)) then ((nthS a0 (fW .i64 (a1 + 2))).bind fun x9_28 => j17 (!(decide (x9_28 ≤ 122)))) else (j17 true))) else ((nthS a0 (fW .i64 (a1 + 2))).bind fun x9_22 => if (decide (97 ≤ x9_22)) then ((nthS a0 (fW .i64 (a1 + 2))).bind fun x9_28 => j17 (!(decide (x9_28 ≤ 122)))) else (j17 true))))) else ((g72 k a0 (fW .i64 (a1 + 1))).bind fun x10_3 => if (decide (x10_3.1 < 32)) then (some (((-1) : Int), (0 : Int))) else (some (x10_3.1, fW .i64 (1 + x10_3.2))))))) (fun j15 => if (decide (x1_3 = 120)) then (if (decide (fW .i64 (a1 + 2) < (a0.length : Int))) then ((nthS a0 (fW .i64 (a1 + 2))).bind fun x5_13 => j15 (decide (x5_13 = 123))) else (j15 false)) else (j15 false)))) (fun j14 => if (decide (48 ≤ x1_3)) then (j14 (decide (x1_3 ≤ 55))) else (j14 false)))) n
theorem g42_l13_s (k : Nat)  (a0 : (List Nat)) (a1 : Int) (x1_3 : Int) (n : Nat) (y13_0 : Int) : g42_l13 k a0 a1 x1_3 (n + 1) y13_0 = (if (decide (y13_0 < 9)) then ((nthS g42c1 y13_0).bind fun x3_2 => if (decide (x3_2 = x1_3)) then ((nthL g42c0 y13_0).bind fun x2_2 => some (x2_2, (2 : Int))) else ((g42_l13 k a0 a1 x1_3 n) (fW .i64 (y13_0 + 1)))) else (jn (fun (z14 : Bool) => if z14 then ((g81 k a0 (fW .i64 (a1 + 1)) (8 : Int) (3 : Int)).bind fun x4_3 => some (x4_3.1, fW .i64 (1 + x4_3.2))) else (jn (fun (z15 : Bool) => if z15 then ((g81 k a0 (fW .i64 (a1 + 3)) (16 : Int) (6 : Int)).bind fun x6_3 => jn (fun (z16 : Bool) => if z16 then (some (((-1) : Int), (0 : Int))) else (some (x6_3.1, fW .i64 (4 + x6_3.2)))) (fun j16 => if (decide (x6_3.2 = 0)) then (j16 true) else (if (decide ((a0.length : Int) ≤ fW .i64 (fW .i64 (a1 + 3) + x6_3.2))) then (j16 true) else ((nthS a0 (fW .i64 (fW .i64 (a1 + 3) + x6_3.2))).bind fun x7_17 => if (!decide (x7_17 = 125)) then (j16 true) else ((g82 k x6_3.1).bind fun x7_22 => j16 (!x7_22)))))) else (if (decide (x1_3 = 120)) then ((g81 k a0 (fW .i64 (a1 + 2)) (16 : Int) (2 : Int)).bind fun x8_3 => if (decide (x8_3.2 < 2)) then (some (((-1) : Int), (0 : Int))) else (some (x8_3.1, (4 : Int)))) else (if (decide (x1_3 = 94)) then (jn (fun (z17 : Bool) => if z17 then (some (((-1) : Int), (0 : Int))) else ((nthS a0 (fW .i64 (a1 + 2))).bind fun x11_3 => some (andI .i64 (fW .i64 x11_3) 31, (3 : Int)))) (fun j17 => if (decide ((a0.length : Int) ≤ fW .i64 (a1 + 2))) then (j17 true) else ((nthS a0 (fW .i64 (a1 + 2))).bind fun x9_9 => if (decide (64 ≤ x9_9)) then ((nthS a0 (fW .i64 (a1 + 2))).bind fun x9_15 => if (decide (x9_15 ≤ 95)) then (j17 false) else ((nthS a0 (fW .i64 (a1 + 2))).bind fun x9_22 => if (decide (97 ≤ x9_22)) then ((nthS a0 (fW .i64 (a1 + 2))).bind fun x9_28 => j17 (!(decide (x9_28 ≤ 122)))) else (j17 true))) else ((nthS a0 (fW .i64 (a1 + 2))).bind fun x9_22 => if (decide (97 ≤ x9_22)) then ((nthS a0 (fW .i64 (a1 + 2))).bind fun x9_28 => j17 (!(decide (x9_28 ≤ 122)))) else (j17 true))))) else ((g72 k a0 (fW .i64 (a1 + 1))).bind fun x10_3 => if (decide (x10_3.1 < 32)) then (some (((-1) : Int), (0 : Int))) else (some (x10_3.1, fW .i64 (1 + x10_3.2))))))) (fun j15 => if (decide (x1_3 = 120)) then (if (decide (fW .i64 (a1 + 2) < (a0.length : Int))) then ((nthS a0 (fW .i64 (a1 + 2))).bind fun x5_13 => j15 (decide (x5_13 = 123))) else (j15 false)) else (j15 false)))) (fun j14 => if (decide (48 ≤ x1_3)) then (j14 (decide (x1_3 ≤ 55))) else (j14 false)))) := rfl
def g42 (k : Nat) (a0 : (List Nat)) (a1 : Int) : Option (Int × Int) :=
 jn (fun (z12 : Bool) => if z12 then (some (((-1) : Int), (0 : Int))) else ((nthS a0 (fW .i64 (a1 + 1))).bind fun x1_3 => g42_l13 k a0 a1 x1_3 k 0)) (fun j12 => if (decide (a1 < 0)) then (j12 true) else (if (decide (fW .i64 ((a0.length : Int) - 1) ≤ a1)) then (j12 true) else ((nthS a0 a1).bind fun x0_12 => j12 (!decide (x0_12 = 92)))))
end
end Go.Proofs.Ytabhkocokojddaa.Am
set_option maxRecDepth 100000
set_option linter.unusedVariables false
set_option linter.unusedSimpArgs false
namespace Go.Proofs.Ytabhkocokojddaa.Am
open Go
def digV (b : Nat) : Nat → Nat → List Nat → Nat × Nat
 | 0, v, _ => (v, 0)
 | _ + 1, v, [] => (v, 0)
 | m + 1, v, c :: r => if dgN c < b then ((digV b m (v * b + dgN c) r).1, (digV b m (v * b + dgN c) r).2 + 1) else (v, 0)
def hexBr (q : List Nat) : Int × Int := if (digV 16 6 0 q).2 = 0 then (-1, 0) else match q.drop (digV 16 6 0 q).2 with | c :: _ => if c = 125 ∧ cpN (digV 16 6 0 q).1 = true then (((digV 16 6 0 q).1 : Int), ((4 + (digV 16 6 0 q).2 : Nat) : Int)) else (-1, 0) | [] => (-1, 0)
def hex2 (r : List Nat) : Int × Int := if (digV 16 2 0 r).2 < 2 then (-1, 0) else (((digV 16 2 0 r).1 : Int), 4)
def hexN (r : List Nat) : Int × Int := match r with | c :: q => if c = 123 then hexBr q else hex2 (c :: q) | [] => (-1, 0)
def ctlN (r : List Nat) : Int × Int := match r with | c :: _ => if c < 64 ∨ 95 < c ∧ (c < 97 ∨ 122 < c) then (-1, 0) else (((c % 32 : Nat) : Int), 3) | [] => (-1, 0)
def nameN (c : Nat) : Nat := if c = 98 then 8 else if c = 100 then 127 else if c = 101 then 27 else if c = 102 then 12 else if c = 110 then 10 else if c = 114 then 13 else if c = 115 then 32 else if c = 116 then 9 else if c = 118 then 11 else 0
def uniN (s : List Nat) : Int × Int := if (dec s).1 < 32 then (-1, 0) else ((dec s).1, (dec s).2 + 1)
def octN (s : List Nat) : Int × Int := (((digV 8 3 0 s).1 : Int), ((1 + (digV 8 3 0 s).2 : Nat) : Int))
def escB (c : Nat) (r : List Nat) : Int × Int := if c = 120 then hexN r else if c = 94 then ctlN r else if 48 ≤ c ∧ c ≤ 55 then octN (c :: r) else if nameN c = 0 then uniN (c :: r) else ((nameN c : Int), 2)
def escN (s : List Nat) : Int × Int := match s with | a :: c :: r => if a = 92 then escB c r else (-1, 0) | _ => (-1, 0)
theorem digV_le (b : Nat) : ∀ (m v : Nat) (s : List Nat), (digV b m v s).2 ≤ m ∧ (digV b m v s).2 ≤ s.length
 | 0, v, s => ⟨Nat.le_refl _, Nat.zero_le _⟩
 | m + 1, v, [] => ⟨Nat.zero_le _, Nat.le_refl _⟩
 | m + 1, v, c :: r => by
  have := digV_le b m (v * b + dgN c) r
  simp only [digV]
  split
  ·simp only [List.length_cons]; omega
  ·exact ⟨Nat.zero_le _, Nat.zero_le _⟩
theorem digV_lt (b : Nat) (hb : 0 < b) : ∀ (m v : Nat) (s : List Nat), (digV b m v s).1 < (v + 1) * b ^ m
 | 0, v, s => by simp only [digV, Nat.pow_zero, Nat.mul_one]; omega
 | m + 1, v, [] => by
  simp only [digV]
  have : 1 ≤ b ^ (m + 1) := Nat.one_le_pow _ _ hb
  calc v < v + 1 := Nat.lt_succ_self _
   _ = (v + 1) * 1 := (Nat.mul_one _).symm
   _ ≤ _ := Nat.mul_le_mul_left _ this
 | m + 1, v, c :: r => by
  simp only [digV]
  split
  ·rename_i h
   have := digV_lt b hb m (v * b + dgN c) r
   refine Nat.lt_of_lt_of_le this ?_
   rw [Nat.pow_succ, Nat.mul_comm (b ^ m) b, ← Nat.mul_assoc]
   refine Nat.mul_le_mul_right _ ?_
   rw [Nat.add_mul, Nat.one_mul]; omega
  ·have : 1 ≤ b ^ (m + 1) := Nat.one_le_pow _ _ hb
   calc v < v + 1 := Nat.lt_succ_self _
    _ = (v + 1) * 1 := (Nat.mul_one _).symm
    _ ≤ _ := Nat.mul_le_mul_left _ this
theorem or_sh (m : Nat) (hm : m ≤ 10) {y x : Nat} (hy : y < 1099511627776) (hx : x < 2 ^ m) : orI .i64 (shlC .i64 (y : Int) m) (x : Int) = ((y * 2 ^ m + x : Nat) : Int) := by
 have hp : 2 ^ m ≤ 1024 := Nat.pow_le_pow_right (n := 2) (by decide) hm
 have hq : y * 2 ^ m ≤ 1099511627776 * 1024 := Nat.mul_le_mul (Nat.le_of_lt hy) hp
 have e1 : shlC .i64 (y : Int) m = ((y * 2 ^ m : Nat) : Int) := by
  unfold shlC
  have : (y : Int) * 2 ^ m = ((y * 2 ^ m : Nat) : Int) := by push_cast; rfl
  rw [this, fwI (by omega) (by omega)]
 rw [e1]
 unfold orI
 have e2 : ∀ x : Nat, x < 2 ^ 63 → (BitVec.ofInt IntKind.i64.bits (x : Int)).toNat = x := by
  intro x hx
  show (BitVec.ofInt 64 (x : Int)).toNat = x
  rw [BitVec.toNat_ofInt]
  omega
 rw [BitVec.toNat_or, e2 _ (by omega), e2 _ (by omega)]
 have e3 : y * 2 ^ m ||| x = y * 2 ^ m + x := by
  have h := Nat.two_pow_add_eq_or_of_lt (i := m) hx y
  rw [Nat.mul_comm y (2 ^ m)]
  exact h.symm
 rw [e3, fwI (by omega) (by omega)]
theorem and31 {c : Nat} (h : c < 256) : andI .u8 (c : Int) 31 = ((c % 32 : Nat) : Int) ∧ andI .i64 (c : Int) 31 = ((c % 32 : Nat) : Int) := by
 have w := byteAll (f := fun c => decide (andI .u8 (c : Int) 31 = ((c % 32 : Nat) : Int)) && decide (andI .i64 (c : Int) 31 = ((c % 32 : Nat) : Int))) (by decide +kernel) h
 simpa using w
theorem control_at (k : Nat) {s : List Nat} (hs : By s) (hl : Sz s) {a : Nat} (ha : a + 2 ≤ s.length) : g80 k s (a : Int) = some (ctlN (s.drop (a + 2))) := by
 unfold Sz at hl
 unfold g80
 rcases Nat.lt_or_ge (a + 2) s.length with h | h
 ·obtain ⟨c, r, hc, hr, hm, hrl⟩ := dcons h
  have n2 : nthS s ((a : Int) + 2) = some (c : Int) := nthX (by omega) hc
  have c256 := hs c hm
  refine iF (by first | (simp (disch := omega) only [↓reduceIte, ↓jn, gsL]; done) | rfl) ?_
  refine bS (by (try simp (disch := omega) only [fwI]); exact n2) ?_
  rw [hc]
  by_cases h0 : c < 64 ∨ 95 < c ∧ (c < 97 ∨ 122 < c)
  ·simp only [ctlN, h0, if_true]
   refine (jS (v := true) (fun j => ?_)).trans rfl
   by_cases h1 : c < 64
   ·simp (disch := omega) only [↓reduceIte, ↓jn, gsL]
   ·by_cases h2 : c < 97
    ·simp (disch := omega) only [↓reduceIte, ↓jn, gsL]
    ·simp (disch := omega) only [↓reduceIte, ↓jn, gsL]
  ·simp only [ctlN, h0, if_false]
   refine (jS (v := false) (fun j => ?_)).trans ?_
   ·by_cases h1 : 95 < c
    ·simp (disch := omega) only [↓reduceIte, ↓jn, gsL]
    ·simp (disch := omega) only [↓reduceIte, ↓jn, gsL]
   ·refine iF (by first | (simp (disch := omega) only [↓reduceIte, ↓jn, gsL]; done) | rfl) ?_
    rw [(and31 c256).1, fwI (by omega) (by omega)]
 ·refine iT (by first | (simp (disch := omega) only [↓reduceIte, ↓jn, gsL]; done) | rfl) ?_
  rw [dnil h]; rfl
theorem oct_l (k : Nat) {s : List Nat} (hs : By s) (hl : Sz s) {a : Nat} : ∀ (d f n v : Nat), n + d = 4 → d < f → (v + 1) * 8 ^ d ≤ 4096 → a + n ≤ s.length + 4 →
 g41_l9 k s (a : Int) f (v : Int) (n : Int) = some (((digV 8 d v (s.drop (a + n))).1 : Int), ((n + (digV 8 d v (s.drop (a + n))).2 : Nat) : Int))
 | 0, f, n, v, hn, hf, hv, ha => by
  unfold Sz at hl
  obtain ⟨f, rfl⟩ : ∃ f', f = f' + 1 := ⟨f - 1, by omega⟩
  rw [g41_l9_s]
  refine (jS (v := (false, (n : Int), (v : Int))) (fun j => ?_)).trans ?_
  ·simp (disch := omega) only [↓reduceIte, ↓jn, gsL]
  ·rfl
 | d + 1, f, n, v, hn, hf, hv, ha => by
  have hl' := hl
  unfold Sz at hl
  obtain ⟨f, rfl⟩ : ∃ f', f = f' + 1 := ⟨f - 1, by omega⟩
  rw [g41_l9_s]
  rcases Nat.lt_or_ge (a + n) s.length with h | h
  ·obtain ⟨c, r, hc, hr, hm, hrl⟩ := dcons h
   have nc : nthS s ((a : Int) + n) = some (c : Int) := nthX (by omega) hc
   have dc := digit_at k (hs c hm)
   by_cases hd : dgN c < 8
   ·have e := fun _ : Unit => fw_s (n := n) (by omega)
    refine (jS (v := (true, (n : Int), (v : Int))) (fun j => ?_)).trans ?_
    ·simp (disch := omega) only [↓reduceIte, ↓jn, gsL, nc, dc]
    ·refine iT (by first | (simp (disch := omega) only [↓reduceIte, ↓jn, gsL]; done) | rfl) ?_
     refine bS (by (try simp (disch := omega) only [fwI]); exact nc) ?_
     refine bS (by (try simp (disch := omega) only [fwI]); exact dc) ?_
     have hp : 1 ≤ 8 ^ d := Nat.one_le_pow _ _ (by decide)
     have hv' : (v * 2 ^ 3 + dgN c + 1) * 8 ^ d ≤ 4096 := by
      refine Nat.le_trans ?_ hv
      rw [Nat.pow_succ 8 d, Nat.mul_comm (8 ^ d) 8, ← Nat.mul_assoc]
      exact Nat.mul_le_mul_right _ (by omega)
     have hv1 : v * 2 ^ 3 + dgN c + 1 ≤ 4096 := Nat.le_trans (Nat.le_mul_of_pos_right _ hp) hv'
     have o := or_sh 3 (by decide) (y := v) (x := dgN c) (by omega) (by omega)
     rw [o]
     have ih := oct_l k hs hl' (a := a) d f (n + 1) (v * 2 ^ 3 + dgN c) (by omega) (by omega) hv' (by omega)
     rw [e ()]
     refine ih.trans ?_
     rw [show a + (n + 1) = a + n + 1 from rfl, hr, hc]
     simp only [digV, hd, if_true, show (2 : Nat) ^ 3 = 8 from rfl]
     refine congrArg some (Prod.ext rfl ?_)
     show ((_ : Nat) : Int) = ((_ : Nat) : Int)
     omega
   ·refine (jS (v := (false, (n : Int), (v : Int))) (fun j => ?_)).trans ?_
    ·simp (disch := omega) only [↓reduceIte, ↓jn, gsL, nc, dc]
    ·rw [hc]; simp only [digV, hd, if_false]; rfl
  ·refine (jS (v := (false, (n : Int), (v : Int))) (fun j => ?_)).trans ?_
   ·simp (disch := omega) only [↓reduceIte, ↓jn, gsL]
   ·rw [dnil h]; simp only [digV]; rfl
def finH (s : List Nat) (a p : Nat) (bh : Bool) (v n : Nat) : Int × Int :=
 if bh then (if n < 1 then (-1, 0) else match s.drop (p + n) with | c :: _ => if c = 125 ∧ cpN v = true then ((v : Int), ((p + n + 1 - a : Nat) : Int)) else (-1, 0) | [] => (-1, 0))
 else (if n < 2 then (-1, 0) else if cpN v = true then ((v : Int), ((p + n - a : Nat) : Int)) else (-1, 0))
theorem put_nil (v : Nat) : eqL (put (v : Int)) [] = !cpN v := by
 cases h : cpN v with
 | false => rw [put_no h]; rfl
 | true =>
  rw [put_cp h]
  unfold enc
  repeat' split
  all_goals rfl
theorem hex_e {k : Nat} (hk : 6 ≤ k) {s : List Nat} (hs : By s) (hl : Sz s) {a p M : Nat} (bh : Bool) (hp : a ≤ p) (hpl : p ≤ s.length + 10) {v n f : Nat} (hn : n ≤ 6) (hend : n = M ∨ s.length ≤ p + n ∨ ∃ c r, s.drop (p + n) = c :: r ∧ ¬ dgN c < 16) :
 g79_l6 k s (a : Int) ((p : Int), (M : Int), if bh then 1 else 0) (f + 1) (v : Int) (n : Int) = some (finH s a p bh v n) := by
 have hl' := hl
 unfold Sz at hl
 rw [g79_l6_s]
 refine (jS (v := (false, (v : Int), (n : Int))) (fun j => ?_)).trans ?_
 ·by_cases h1 : n < M
  ·by_cases h2 : p + n < s.length
   ·obtain ⟨c, r, hc, hd⟩ : ∃ c r, s.drop (p + n) = c :: r ∧ ¬ dgN c < 16 := by
     rcases hend with h | h | h
     ·omega
     ·omega
     ·exact h
    have nc : nthS s ((p : Int) + n) = some (c : Int) := nthX (by omega) hc
    simp (disch := omega) only [↓reduceIte, ↓jn, gsL, nc, digit_at k (hs c (drop_mem hc))]
   ·simp (disch := omega) only [↓reduceIte, ↓jn, gsL]
  ·simp (disch := omega) only [↓reduceIte, ↓jn, gsL]
 ·refine iF (by first | (simp (disch := omega) only [↓reduceIte, ↓jn, gsL]; done) | rfl) ?_
  simp only [fw_a (n := p) (m := n) (by omega) (by omega), put_at hk, Option.bind_some, put_nil]
  unfold finH
  cases bh with
  | false =>
   simp only [Bool.false_eq_true, if_false]
   by_cases h1 : n < 2
   ·rw [if_pos h1]
    refine (jS (v := ((v : Int), ((p + n : Nat) : Int), true)) (fun j => ?_)).trans rfl
    simp (disch := omega) only [↓reduceIte, ↓jn, gsL]
   ·rw [if_neg h1]
    refine (jS (v := ((v : Int), ((p + n : Nat) : Int), !cpN v)) (fun j => ?_)).trans ?_
    ·simp (disch := omega) only [↓reduceIte, ↓jn, gsL]
    ·cases cpN v with
     | false => rfl
     | true => refine iF (by first | (simp (disch := omega) only [↓reduceIte, ↓jn, gsL]; done) | rfl) ?_; simp (disch := omega) only [↓reduceIte, ↓jn, gsL]; exact congrArg some (Prod.ext rfl (by show _ = ((_ : Nat) : Int); omega))
  | true =>
   simp only [if_true]
   by_cases h1 : n < 1
   ·rw [if_pos h1]
    refine (jS (v := ((v : Int), ((p + n : Nat) : Int), true)) (fun j => ?_)).trans rfl
    simp (disch := omega) only [↓reduceIte, ↓jn, gsL]
   ·rw [if_neg h1]
    rcases Nat.lt_or_ge (p + n) s.length with h2 | h2
    ·obtain ⟨c, r, hc, hr, hm, hrl⟩ := dcons h2
     have nc : nthS s ((p + n : Nat) : Int) = some (c : Int) := nthX rfl hc
     rw [hc]
     by_cases h125 : c = 125
     ·subst h125
      refine (jS (v := ((v : Int), ((p + n : Nat) : Int), !cpN v)) (fun j => ?_)).trans ?_
      ·simp (disch := omega) only [↓reduceIte, ↓jn, gsL, nc]
      ·simp only [true_and]
       cases cpN v with
       | false => rfl
       | true => refine iF (by first | (simp (disch := omega) only [↓reduceIte, ↓jn, gsL]; done) | rfl) ?_; simp (disch := omega) only [↓reduceIte, ↓jn, gsL]; exact congrArg some (Prod.ext rfl (by show _ = ((_ : Nat) : Int); omega))
     ·refine (jS (v := ((v : Int), ((p + n : Nat) : Int), true)) (fun j => ?_)).trans ?_
      ·simp (disch := omega) only [↓reduceIte, ↓jn, gsL, nc]
      ·simp only [h125, false_and, if_false]; rfl
    ·rw [dnil h2]
     refine (jS (v := ((v : Int), ((p + n : Nat) : Int), true)) (fun j => ?_)).trans rfl
     simp (disch := omega) only [↓reduceIte, ↓jn, gsL]
theorem hex_l {k : Nat} (hk : 6 ≤ k) {s : List Nat} (hs : By s) (hl : Sz s) {a p M : Nat} (bh : Bool) (hp : a ≤ p) (hpl : p ≤ s.length + 10) (hM : M ≤ 6) : ∀ (d f n v : Nat), n + d = M → d < f → (v + 1) * 16 ^ d ≤ 16777216 →
 g79_l6 k s (a : Int) ((p : Int), (M : Int), if bh then 1 else 0) f (v : Int) (n : Int) = some (finH s a p bh (digV 16 d v (s.drop (p + n))).1 (n + (digV 16 d v (s.drop (p + n))).2))
 | 0, f, n, v, hn, hf, hv => by
  obtain ⟨f, rfl⟩ : ∃ f', f = f' + 1 := ⟨f - 1, by omega⟩
  exact hex_e hk hs hl bh hp hpl (by omega) (.inl (by omega))
 | d + 1, f, n, v, hn, hf, hv => by
  have hl' := hl
  unfold Sz at hl
  obtain ⟨f, rfl⟩ : ∃ f', f = f' + 1 := ⟨f - 1, by omega⟩
  rcases Nat.lt_or_ge (p + n) s.length with h | h
  ·obtain ⟨c, r, hc, hr, hm, hrl⟩ := dcons h
   by_cases hd : dgN c < 16
   ·rw [g79_l6_s]
    have nc : nthS s ((p : Int) + n) = some (c : Int) := nthX (by omega) hc
    have dc := digit_at k (hs c hm)
    have e := fun _ : Unit => fw_s (n := n) (by clear hv; omega)
    have hnM : n < M := by omega
    refine (jS (v := (true, (v : Int), (n : Int))) (fun j => ?_)).trans ?_
    ·clear hv; simp (disch := omega) only [↓reduceIte, ↓jn, gsL, nc, dc]
    ·refine iT (by first | (simp (disch := omega) only [↓reduceIte, ↓jn, gsL]; done) | rfl) ?_
     refine bS (by (try simp (disch := omega) only [fwI]); exact nc) ?_
     refine bS (by (try simp (disch := omega) only [fwI]); exact dc) ?_
     have h16 : 1 ≤ 16 ^ d := Nat.one_le_pow _ _ (by decide)
     have hv' : (v * 2 ^ 4 + dgN c + 1) * 16 ^ d ≤ 16777216 := by
      refine Nat.le_trans ?_ hv
      rw [Nat.pow_succ 16 d, Nat.mul_comm (16 ^ d) 16, ← Nat.mul_assoc]
      exact Nat.mul_le_mul_right _ (by omega)
     have hv1 : v * 2 ^ 4 + dgN c + 1 ≤ 16777216 := Nat.le_trans (Nat.le_mul_of_pos_right _ h16) hv'
     have o := or_sh 4 (by decide) (y := v) (x := dgN c) (by omega) (by omega)
     rw [o]
     have ih := hex_l hk hs hl' (a := a) (p := p) (M := M) bh hp hpl hM d f (n + 1) (v * 2 ^ 4 + dgN c) (by omega) (by omega) hv'
     rw [e ()]
     refine ih.trans ?_
     rw [show p + (n + 1) = p + n + 1 from rfl, hr, hc]
     simp only [digV, hd, if_true, show (2 : Nat) ^ 4 = 16 from rfl]
     rw [Nat.add_assoc n 1, Nat.add_comm 1]
   ·rw [hc]
    simp only [digV, hd, if_false]
    exact hex_e hk hs hl' bh hp hpl (by omega) (.inr (.inr ⟨c, r, hc, hd⟩))
  ·rw [dnil h]
   simp only [digV]
   exact hex_e hk hs hl' bh hp hpl (by omega) (.inr (.inl (by omega)))
theorem cp_small {v : Nat} (h : v < 256) : cpN v = true := by unfold cpN; simp; omega
theorem hex_at {k : Nat} (hk : 10 ≤ k) {s : List Nat} (hs : By s) (hl : Sz s) {a : Nat} (ha : a + 2 ≤ s.length) : g79 k s (a : Int) = some (hexN (s.drop (a + 2))) := by
 have hl' := hl
 unfold Sz at hl
 unfold g79
 have e2 := fun _ : Unit => fw_a (n := a) (m := 2) (by omega) (by omega)
 have two : ∀ r, s.drop (a + 2) = r → some (finH s a (a + 2) false (digV 16 2 0 (s.drop (a + 2 + 0))).1 (0 + (digV 16 2 0 (s.drop (a + 2 + 0))).2)) = some (hex2 r) := by
  intro r hr
  rw [Nat.add_zero, hr, Nat.zero_add]
  have h1 := digV_le 16 2 0 r
  have h2 := digV_lt 16 (by decide) 2 0 r
  unfold finH hex2
  simp only [Bool.false_eq_true, if_false]
  by_cases h : (digV 16 2 0 r).2 < 2
  ·rw [if_pos h, if_pos h]
  ·rw [if_neg h, if_neg h, if_pos (cp_small (by simpa using h2))]
   exact congrArg some (Prod.ext rfl (by show ((_ : Nat) : Int) = 4; omega))
 rw [show fW .i64 ((a : Int) + 2) = ((a + 2 : Nat) : Int) from e2 ()]
 clear e2
 rcases Nat.lt_or_ge (a + 2) s.length with h | h
 ·obtain ⟨c, r, hc, hr, hm, hrl⟩ := dcons h
  have nc : nthS s ((a + 2 : Nat) : Int) = some (c : Int) := nthX rfl hc
  by_cases h123 : c = 123
  ·subst h123
   refine (jS (v := true) (fun j => ?_)).trans ?_
   ·simp (disch := omega) only [↓reduceIte, ↓jn, gsL, nc]
   ·refine (jS (v := (((a + 3 : Nat) : Int), ((6 : Nat) : Int), if true then 1 else 0)) (fun j => ?_)).trans ?_
    ·refine iT (by first | (simp (disch := omega) only [↓reduceIte, ↓jn, gsL]; done) | rfl) ?_
     rw [fw_s (n := a + 2) (by omega)]; rfl
    ·refine (hex_l (by omega) hs hl' (a := a) (p := a + 3) (M := 6) true (by omega) (by omega) (by decide) 6 k 0 0 rfl (by omega) (by decide)).trans ?_
     rw [Nat.add_zero, show a + 3 = a + 2 + 1 from rfl, hr, hc, Nat.zero_add]
     have h1 := digV_le 16 6 0 r
     unfold finH hexN hexBr
     simp only [if_true, if_true]
     by_cases h0 : (digV 16 6 0 r).2 = 0
     ·rw [if_pos (by omega), if_pos h0]
     ·rw [if_neg (by omega), if_neg h0, ← List.drop_drop, hr]
      cases r.drop (digV 16 6 0 r).2 with
      | nil => rfl
      | cons d q =>
       simp only []
       by_cases hd : d = 125 ∧ cpN (digV 16 6 0 r).1 = true
       ·rw [if_pos hd, if_pos hd]
        exact congrArg some (Prod.ext rfl (by show ((_ : Nat) : Int) = ((_ : Nat) : Int); omega))
       ·rw [if_neg hd, if_neg hd]
  ·refine (jS (v := false) (fun j => ?_)).trans ?_
   ·simp (disch := omega) only [↓reduceIte, ↓jn, gsL, nc]
   ·refine (jS (v := (((a + 2 : Nat) : Int), ((2 : Nat) : Int), if false then 1 else 0)) (fun j => ?_)).trans ?_
    ·refine iF (by first | (simp (disch := omega) only [↓reduceIte, ↓jn, gsL]; done) | rfl) ?_
     rfl
    ·refine (hex_l (by omega) hs hl' (a := a) (p := a + 2) (M := 2) false (by omega) (by omega) (by decide) 2 k 0 0 rfl (by omega) (by decide)).trans ?_
     rw [two _ hc, hc]
     simp only [hexN, h123, if_false]
 ·refine (jS (v := false) (fun j => ?_)).trans ?_
  ·simp (disch := omega) only [↓reduceIte, ↓jn, gsL]
  ·refine (jS (v := (((a + 2 : Nat) : Int), ((2 : Nat) : Int), if false then 1 else 0)) (fun j => ?_)).trans ?_
   ·refine iF (by first | (simp (disch := omega) only [↓reduceIte, ↓jn, gsL]; done) | rfl) ?_
    rfl
   ·refine (hex_l (by omega) hs hl' (a := a) (p := a + 2) (M := 2) false (by omega) (by omega) (by decide) 2 k 0 0 rfl (by omega) (by decide)).trans ?_
    rw [two _ (dnil h), dnil h]
    rfl
end Go.Proofs.Ytabhkocokojddaa.Am
set_option maxRecDepth 100000
set_option linter.unusedVariables false
set_option linter.unusedSimpArgs false
namespace Go.Proofs.Ytabhkocokojddaa.Am
open Go
theorem escN_no {a : Nat} {r : List Nat} (h : a ≠ 92) : escN (a :: r) = (-1, 0) := by
 cases r with
 | nil => rfl
 | cons c r => simp only [escN, h, if_false]
theorem escape_at {k : Nat} (hk : 10 ≤ k) {s : List Nat} (hs : By s) (hl : Sz s) (a : Nat) : g41 k s (a : Int) = some (escN (s.drop a)) := by
 have hl' := hl
 unfold Sz at hl
 unfold g41
 have fail : ∀ (f : Bool → Option (Int × Int)) (g : (Bool → Option (Int × Int)) → Option (Int × Int)), f true = some (-1, 0) → (∀ j, g j = j true) → escN (s.drop a) = (-1, 0) → jn f g = some (escN (s.drop a)) := by
  intro f g hf hg he
  rw [he]; exact (hg f).trans hf
 rcases Nat.lt_or_ge a s.length with h | h
 ·obtain ⟨c, r, hc, hr, hm, hrl⟩ := dcons h
  have nc := nthX (x := (a : Int)) rfl hc
  by_cases h92 : c = 92
  ·subst h92
   cases hr2 : r with
   | nil =>
    rw [hr2] at hrl hc
    simp only [List.length_nil] at hrl
    refine fail _ _ rfl (fun j => ?_) (by rw [hc]; rfl)
    simp (disch := omega) only [↓reduceIte, ↓jn, gsL, nc]
   | cons d q =>
    rw [hr2] at hr hrl hc
    have d256 := hs d (drop_mem hr)
    simp only [List.length_cons] at hrl
    have nd : nthS s ((a : Int) + 1) = some (d : Int) := nthX (i := a + 1) (by omega) hr
    refine (jS (v := false) (fun j => ?_)).trans ?_
    ·simp (disch := omega) only [↓reduceIte, ↓jn, gsL, nc]
    ·refine iF (by first | (simp (disch := omega) only [↓reduceIte, ↓jn, gsL]; done) | rfl) ?_
     refine bS (by (try simp (disch := omega) only [fwI]); exact nd) ?_
     rw [hc]
     simp only [escN, if_true]
     have dq : s.drop (a + 2) = q := by rw [← List.drop_drop, hc]; rfl
     unfold escB
     by_cases h120 : d = 120
     ·subst h120
      refine iT (by first | (simp (disch := omega) only [↓reduceIte, ↓jn, gsL]; done) | rfl) ?_
      rw [if_pos rfl, hex_at hk hs hl' (a := a) (by omega), dq]
      rfl
     ·rw [if_neg h120]
      refine iF (by first | (simp (disch := omega) only [↓reduceIte, ↓jn, gsL]; done) | rfl) ?_
      by_cases h94 : d = 94
      ·subst h94
       refine iT (by first | (simp (disch := omega) only [↓reduceIte, ↓jn, gsL]; done) | rfl) ?_
       rw [if_pos rfl, control_at k hs hl' (a := a) (by omega), dq]
       rfl
      ·rw [if_neg h94]
       refine iF (by first | (simp (disch := omega) only [↓reduceIte, ↓jn, gsL]; done) | rfl) ?_
       by_cases h8 : 48 ≤ d ∧ d ≤ 55
       ·rw [if_pos h8]
        refine (jS (v := true) (fun j => ?_)).trans ?_
        ·simp (disch := omega) only [↓reduceIte, ↓jn, gsL]
        ·refine iT (by first | (simp (disch := omega) only [↓reduceIte, ↓jn, gsL]; done) | rfl) ?_
         refine (oct_l k hs hl' (a := a) 3 k 1 0 rfl (by omega) (by decide) (by omega)).trans ?_
         rw [hr]
         rfl
       ·rw [if_neg h8]
        refine (jS (v := false) (fun j => ?_)).trans ?_
        ·by_cases h1 : 48 ≤ d
         ·simp (disch := omega) only [↓reduceIte, ↓jn, gsL]
         ·simp (disch := omega) only [↓reduceIte, ↓jn, gsL]
        ·refine iF (by first | (simp (disch := omega) only [↓reduceIte, ↓jn, gsL]; done) | rfl) ?_
         have nx := next_at (k := k) (by omega) hs hl' (a + 1)
         rw [hr] at nx
         have fin : (g78 k s (fW .i64 ((a : Int) + 1))).bind (fun x4_3 => if (decide (x4_3.1 < 32)) then (some (((-1) : Int), (0 : Int))) else (some (x4_3.1, fW .i64 (x4_3.2 + 1)))) = some (uniN (d :: q)) := by
          rw [fw_s (by omega)]
          refine bS (by (try simp (disch := omega) only [fwI]); exact nx) ?_
          unfold uniN
          obtain ⟨n, n1, n2, n3, n4, -⟩ := dec_size (s := d :: q) (by simp)
          by_cases h32 : (dec (d :: q)).1 < 32
          ·rw [if_pos h32]; refine iT (by first | (simp (disch := omega) only [↓reduceIte, ↓jn, gsL, h32]; done) | rfl) ?_; rfl
          ·rw [if_neg h32]; refine iF (by first | (simp (disch := omega) only [↓reduceIte, ↓jn, gsL, h32]; done) | rfl) ?_; rw [n1, fw_s (by clear n1; omega)]; rfl
         unfold nameN
         by_cases e1 : d = 98
         ·subst e1; rfl
         by_cases e2 : d = 100
         ·subst e2; rfl
         by_cases e3 : d = 101
         ·subst e3; rfl
         by_cases e4 : d = 102
         ·subst e4; rfl
         by_cases e5 : d = 110
         ·subst e5; rfl
         by_cases e6 : d = 114
         ·subst e6; rfl
         by_cases e7 : d = 115
         ·subst e7; rfl
         by_cases e8 : d = 116
         ·subst e8; rfl
         by_cases e9 : d = 118
         ·subst e9; rfl
         rw [dF (p := (d : Int) = 98) (by omega), dF (p := (d : Int) = 100) (by omega), dF (p := (d : Int) = 101) (by omega), dF (p := (d : Int) = 102) (by omega), dF (p := (d : Int) = 110) (by omega), dF (p := (d : Int) = 114) (by omega), dF (p := (d : Int) = 115) (by omega), dF (p := (d : Int) = 116) (by omega), dF (p := (d : Int) = 118) (by omega)]
         simp only [e1, e2, e3, e4, e5, e6, e7, e8, e9, if_false, if_true, Bool.false_eq_true]
         exact fin
  ·have h92' : ¬ (c : Int) = 92 := by omega
   refine fail _ _ rfl (fun j => ?_) (by rw [hc]; exact escN_no h92)
   simp (disch := omega) only [↓reduceIte, ↓jn, gsL, nc, h92']
 ·refine fail _ _ rfl (fun j => ?_) (by rw [dnil h]; rfl)
  simp (disch := omega) only [↓reduceIte, ↓jn, gsL]
theorem rrunV_l (k : Nat) {s : List Nat} (hs : By s) (hl : Sz s) {p b M : Nat} (hb : b ≤ 16) (hpl : p ≤ s.length + 10) (hM : M ≤ 6) : ∀ (d f n v : Nat), n + d = M → d < f → (v + 1) * 16 ^ d ≤ 16777216 →
 g81_l2 k s (p : Int) (b : Int) (M : Int) f (v : Int) (n : Int) = some (((digV b d v (s.drop (p + n))).1 : Int), ((n + (digV b d v (s.drop (p + n))).2 : Nat) : Int))
 | 0, f, n, v, hn, hf, hv => by
  unfold Sz at hl
  obtain ⟨f, rfl⟩ : ∃ f', f = f' + 1 := ⟨f - 1, by omega⟩
  rw [g81_l2_s]
  refine (jS (v := (false, (v : Int), (n : Int))) (fun j => ?_)).trans ?_
  ·clear hv; simp (disch := omega) only [↓reduceIte, ↓jn, gsL]
  ·rfl
 | d + 1, f, n, v, hn, hf, hv => by
  have hl' := hl
  unfold Sz at hl
  obtain ⟨f, rfl⟩ : ∃ f', f = f' + 1 := ⟨f - 1, by omega⟩
  rw [g81_l2_s]
  rcases Nat.lt_or_ge (p + n) s.length with h | h
  ·obtain ⟨c, r, hc, hr, hm, hrl⟩ := dcons h
   have nc : nthS s ((p : Int) + n) = some (c : Int) := nthX (by omega) hc
   have vc := value_at k (b := b) (hs c hm) (by omega)
   by_cases hd : dgN c < b
   ·rw [if_pos hd] at vc
    have e := fun _ : Unit => fw_s (n := n) (by clear hv; omega)
    refine (jS (v := (true, (v : Int), (n : Int))) (fun j => ?_)).trans ?_
    ·clear hv; simp (disch := omega) only [↓reduceIte, ↓jn, gsL, nc, vc]
    ·refine iT (by first | (simp (disch := omega) only [↓reduceIte, ↓jn, gsL]; done) | rfl) ?_
     refine bS (by (try simp (disch := omega) only [fwI]); exact nc) ?_
     refine bS (by (try simp (disch := omega) only [fwI]); exact vc) ?_
     have h16 : 1 ≤ 16 ^ d := Nat.one_le_pow _ _ (by decide)
     have hvb : v * b ≤ v * 16 := Nat.mul_le_mul_left _ hb
     have hv' : (v * b + dgN c + 1) * 16 ^ d ≤ 16777216 := by
      refine Nat.le_trans ?_ hv
      rw [Nat.pow_succ 16 d, Nat.mul_comm (16 ^ d) 16, ← Nat.mul_assoc]
      exact Nat.mul_le_mul_right _ (by omega)
     have hv1 : v * b + dgN c + 1 ≤ 16777216 := Nat.le_trans (Nat.le_mul_of_pos_right _ h16) hv'
     have ih := rrunV_l k hs hl' (p := p) (b := b) (M := M) hb hpl hM d f (n + 1) (v * b + dgN c) (by omega) (by omega) hv'
     rw [e (), show (v : Int) * (b : Int) = ((v * b : Nat) : Int) from by push_cast; rfl, fwI (n := ((v * b : Nat) : Int)) (by omega) (by omega), fw_a (by omega) (by omega)]
     refine ih.trans ?_
     rw [show p + (n + 1) = p + n + 1 from rfl, hr, hc]
     simp only [digV, hd, if_true]
     rw [Nat.add_assoc n 1, Nat.add_comm 1]
   ·rw [if_neg hd] at vc
    refine (jS (v := (false, (v : Int), (n : Int))) (fun j => ?_)).trans ?_
    ·clear hv; simp (disch := omega) only [↓reduceIte, ↓jn, gsL, nc, vc]
    ·rw [hc]; simp only [digV, hd, if_false]; rfl
  ·refine (jS (v := (false, (v : Int), (n : Int))) (fun j => ?_)).trans ?_
   ·clear hv; simp (disch := omega) only [↓reduceIte, ↓jn, gsL]
   ·rw [dnil h]; simp only [digV]; rfl
theorem rrunV_at {k : Nat} {s : List Nat} (hs : By s) (hl : Sz s) {p b M : Nat} (hb : b ≤ 16) (hpl : p ≤ s.length + 10) (hM : M ≤ 6) (hk : 7 ≤ k) : g81 k s (p : Int) (b : Int) (M : Int) = some (((digV b M 0 (s.drop p)).1 : Int), ((digV b M 0 (s.drop p)).2 : Int)) := by
 have hp : 16 ^ M ≤ 16777216 := Nat.pow_le_pow_right (n := 16) (by decide) hM
 have := rrunV_l k hs hl (p := p) (b := b) (M := M) hb hpl hM M k 0 0 (by omega) (by omega) (by omega)
 rw [Nat.zero_add] at this
 exact this
theorem rname_no (k : Nat) (s : List Nat) (a : Int) {d : Nat} (hd : nameN d = 0) (f : Nat) : g42_l13 k s a (d : Int) (f + 10) 0 = g42_l13 k s a (d : Int) (f + 1) 9 := by
 have ne : d ≠ 98 ∧ d ≠ 100 ∧ d ≠ 101 ∧ d ≠ 102 ∧ d ≠ 110 ∧ d ≠ 114 ∧ d ≠ 115 ∧ d ≠ 116 ∧ d ≠ 118 := by
  refine ⟨?_, ?_, ?_, ?_, ?_, ?_, ?_, ?_, ?_⟩ <;> (intro h; subst h; revert hd; decide)
 obtain ⟨e1, e2, e3, e4, e5, e6, e7, e8, e9⟩ := ne
 have st : ∀ (i b f : Nat), i < 9 → nthS g42c1 (i : Int) = some (b : Int) → d ≠ b → g42_l13 k s a (d : Int) (f + 1) (i : Int) = g42_l13 k s a (d : Int) f ((i + 1 : Nat) : Int) := by
  intro i b f hi hn hb
  rw [g42_l13_s]
  refine iT (by first | (simp (disch := omega) only [↓reduceIte, ↓jn, gsL]; done) | rfl) ?_
  refine bS (by (try simp (disch := omega) only [fwI]); exact hn) ?_
  rw [dF (show ¬ (b : Int) = (d : Int) by omega), fw_s (by omega)]
  rfl
 exact (st 0 98 (f + 9) (by decide) rfl e1).trans <| (st 1 100 (f + 8) (by decide) rfl e2).trans <| (st 2 101 (f + 7) (by decide) rfl e3).trans <| (st 3 102 (f + 6) (by decide) rfl e4).trans <| (st 4 110 (f + 5) (by decide) rfl e5).trans <| (st 5 114 (f + 4) (by decide) rfl e6).trans <| (st 6 115 (f + 3) (by decide) rfl e7).trans <| (st 7 116 (f + 2) (by decide) rfl e8).trans (st 8 118 (f + 1) (by decide) rfl e9)
theorem rescape_t {k : Nat} (hk : 10 ≤ k) {s : List Nat} (hs : By s) (hl : Sz s) {a d f : Nat} {q : List Nat} (hr : s.drop (a + 1) = d :: q) (hd : nameN d = 0) :
 g42_l13 k s (a : Int) (d : Int) (f + 1) 9 = some (escB d q) := by
 have hl' := hl
 unfold Sz at hl
 have d256 := hs d (drop_mem hr)
 have dq : s.drop (a + 2) = q := drop_step hr
 have ql := drop_len hr
 rw [g42_l13_s]
 refine iF rfl ?_
 unfold escB
 by_cases h8 : 48 ≤ d ∧ d ≤ 55
 ·refine (jS (v := true) (fun j => ?_)).trans ?_
  ·simp (disch := omega) only [↓reduceIte, ↓jn, gsL]
  ·refine iT (by first | (simp (disch := omega) only [↓reduceIte, ↓jn, gsL]; done) | rfl) ?_
   rw [fw_s (by omega)]
   have r := rrunV_at (k := k) hs hl' (p := a + 1) (b := 8) (M := 3) (by decide) (by omega) (by decide) (by omega)
   rw [hr] at r
   refine bS (by (try simp (disch := omega) only [fwI]); exact r) ?_
   have := (digV_le 8 3 0 (d :: q)).1
   rw [show (1 : Int) = ((1 : Nat) : Int) from rfl, fw_a (by omega) (by omega)]
   rw [if_neg (show ¬ d = 120 by omega), if_neg (show ¬ d = 94 by omega), if_pos h8]
   rfl
 ·refine (jS (v := false) (fun j => ?_)).trans ?_
  ·by_cases h1 : 48 ≤ d
   ·simp (disch := omega) only [↓reduceIte, ↓jn, gsL]
   ·simp (disch := omega) only [↓reduceIte, ↓jn, gsL]
  ·refine iF (by first | (simp (disch := omega) only [↓reduceIte, ↓jn, gsL]; done) | rfl) ?_
   by_cases h120 : d = 120
   ·subst h120
    rw [if_pos rfl]
    cases q with
    | nil =>
     simp only [List.length_nil] at ql
     refine (jS (v := false) (fun j => ?_)).trans ?_
     ·simp (disch := omega) only [↓reduceIte, ↓jn, gsL]
     ·refine iF (by first | (simp (disch := omega) only [↓reduceIte, ↓jn, gsL]; done) | rfl) ?_
      refine iT (by first | (simp (disch := omega) only [↓reduceIte, ↓jn, gsL]; done) | rfl) ?_
      have r := rrunV_at (k := k) hs hl' (p := a + 2) (b := 16) (M := 2) (by decide) (by omega) (by decide) (by omega)
      rw [dq] at r
      rw [show fW .i64 ((a : Int) + 2) = ((a + 2 : Nat) : Int) from fw_a (m := 2) (by omega) (by omega)]
      refine bS (by (try simp (disch := omega) only [fwI]); exact r) ?_
      rfl
    | cons c r =>
     have hc := dq
     have c256 := hs c (drop_mem hc)
     simp only [List.length_cons] at ql
     have nc : nthS s ((a : Int) + 2) = some (c : Int) := nthX (i := a + 2) (by omega) hc
     have dr : s.drop (a + 3) = r := drop_step hc
     by_cases h123 : c = 123
     ·subst h123
      refine (jS (v := true) (fun j => ?_)).trans ?_
      ·simp (disch := omega) only [↓reduceIte, ↓jn, gsL, nc]
      ·refine iT (by first | (simp (disch := omega) only [↓reduceIte, ↓jn, gsL]; done) | rfl) ?_
       have rr := rrunV_at (k := k) hs hl' (p := a + 3) (b := 16) (M := 6) (by decide) (by omega) (by decide) (by omega)
       rw [dr] at rr
       rw [show fW .i64 ((a : Int) + 3) = ((a + 3 : Nat) : Int) from fw_a (m := 3) (by omega) (by omega)]
       refine bS (by (try simp (disch := omega) only [fwI]); exact rr) ?_
       have hvl := digV_le 16 6 0 r
       simp only [hexN, if_true]
       unfold hexBr
       by_cases h0 : (digV 16 6 0 r).2 = 0
       ·rw [if_pos h0]
        refine (jS (v := true) (fun j => ?_)).trans rfl
        rw [h0]; rfl
       ·rw [if_neg h0]
        have ee := fun _ : Unit => fw_a (n := a + 3) (m := (digV 16 6 0 r).2) (by omega) (by omega)
        have dz : s.drop (a + 3 + (digV 16 6 0 r).2) = r.drop (digV 16 6 0 r).2 := by rw [← List.drop_drop, dr]
        cases hz : r.drop (digV 16 6 0 r).2 with
        | nil =>
         have : s.length ≤ a + 3 + (digV 16 6 0 r).2 := by
          have := congrArg List.length (dz.trans hz)
          rw [List.length_drop, List.length_nil] at this
          omega
         refine (jS (v := true) (fun j => ?_)).trans rfl
         rw [ee ()]
         simp (disch := omega) only [↓reduceIte, ↓jn, gsL, h0]
        | cons z qq =>
         rw [hz] at dz
         have nz := nthX (x := ((a + 3 + (digV 16 6 0 r).2 : Nat) : Int)) rfl dz
         have zl := drop_len dz
         by_cases h125 : z = 125
         ·subst h125
          simp only [true_and]
          refine (jS (v := !cpN (digV 16 6 0 r).1) (fun j => ?_)).trans ?_
          ·rw [ee ()]
           simp (disch := omega) only [↓reduceIte, ↓jn, gsL, h0, nz, point_at]
          ·cases cpN (digV 16 6 0 r).1 with
           | false => rfl
           | true =>
            refine iF (by first | (simp (disch := omega) only [↓reduceIte, ↓jn, gsL]; done) | rfl) ?_
            rw [show (4 : Int) = ((4 : Nat) : Int) from rfl, fw_a (by omega) (by omega)]
            rfl
         ·simp only [h125, false_and, if_false]
          refine (jS (v := true) (fun j => ?_)).trans rfl
          rw [ee ()]
          have : ¬ (z : Int) = 125 := by omega
          simp (disch := omega) only [↓reduceIte, ↓jn, gsL, h0, nz, this]
     ·refine (jS (v := false) (fun j => ?_)).trans ?_
      ·have : ¬ (c : Int) = 123 := by omega
       simp (disch := omega) only [↓reduceIte, ↓jn, gsL, nc, this]
      ·refine iF (by first | (simp (disch := omega) only [↓reduceIte, ↓jn, gsL]; done) | rfl) ?_
       refine iT (by first | (simp (disch := omega) only [↓reduceIte, ↓jn, gsL]; done) | rfl) ?_
       have rr := rrunV_at (k := k) hs hl' (p := a + 2) (b := 16) (M := 2) (by decide) (by omega) (by decide) (by omega)
       rw [dq] at rr
       rw [show fW .i64 ((a : Int) + 2) = ((a + 2 : Nat) : Int) from fw_a (m := 2) (by omega) (by omega)]
       refine bS (by (try simp (disch := omega) only [fwI]); exact rr) ?_
       simp only [hexN, h123, if_false]
       unfold hex2
       by_cases h2 : (digV 16 2 0 (c :: r)).2 < 2
       ·rw [if_pos h2]; refine iT (by first | (simp (disch := omega) only [↓reduceIte, ↓jn, gsL]; done) | rfl) ?_; rfl
       ·rw [if_neg h2]; refine iF (by first | (simp (disch := omega) only [↓reduceIte, ↓jn, gsL]; done) | rfl) ?_; rfl
   ·rw [if_neg h120]
    refine (jS (v := false) (fun j => ?_)).trans ?_
    ·simp (disch := omega) only [↓reduceIte, ↓jn, gsL]
    ·refine iF (by first | (simp (disch := omega) only [↓reduceIte, ↓jn, gsL]; done) | rfl) ?_
     refine iF (by first | (simp (disch := omega) only [↓reduceIte, ↓jn, gsL]; done) | rfl) ?_
     by_cases h94 : d = 94
     ·subst h94
      rw [if_pos rfl]
      refine iT (by first | (simp (disch := omega) only [↓reduceIte, ↓jn, gsL]; done) | rfl) ?_
      cases q with
      | nil =>
       simp only [List.length_nil] at ql
       refine (jS (v := true) (fun j => ?_)).trans ?_
       ·simp (disch := omega) only [↓reduceIte, ↓jn, gsL]
       ·rfl
      | cons c r =>
       have hc := dq
       have c256 := hs c (drop_mem hc)
       simp only [List.length_cons] at ql
       have nc : nthS s ((a : Int) + 2) = some (c : Int) := nthX (i := a + 2) (by omega) hc
       by_cases h0 : c < 64 ∨ 95 < c ∧ (c < 97 ∨ 122 < c)
       ·simp only [ctlN, h0, if_true]
        refine (jS (v := true) (fun j => ?_)).trans rfl
        by_cases h1 : c < 64
        ·simp (disch := omega) only [↓reduceIte, ↓jn, gsL, nc]
        ·by_cases h2 : c < 97
         ·simp (disch := omega) only [↓reduceIte, ↓jn, gsL, nc]
         ·simp (disch := omega) only [↓reduceIte, ↓jn, gsL, nc]
       ·simp only [ctlN, h0, if_false]
        refine (jS (v := false) (fun j => ?_)).trans ?_
        ·by_cases h1 : 95 < c
         ·simp (disch := omega) only [↓reduceIte, ↓jn, gsL, nc]
         ·simp (disch := omega) only [↓reduceIte, ↓jn, gsL, nc]
        ·refine iF (by first | (simp (disch := omega) only [↓reduceIte, ↓jn, gsL]; done) | rfl) ?_
         refine bS (by (try simp (disch := omega) only [fwI]); exact nc) ?_
         rw [fwI (n := (c : Int)) (by omega) (by omega), (and31 c256).2]
     ·rw [if_neg h94, if_neg h8, if_pos hd]
      refine iF (by first | (simp (disch := omega) only [↓reduceIte, ↓jn, gsL]; done) | rfl) ?_
      have nx := rnext_at (k := k) (by omega) hs hl' (a + 1)
      rw [hr] at nx
      rw [fw_s (by omega)]
      refine bS (by (try simp (disch := omega) only [fwI]); exact nx) ?_
      unfold uniN
      obtain ⟨n, n1, n2, n3, n4, -⟩ := dec_size (s := d :: q) (by simp)
      by_cases h32 : (dec (d :: q)).1 < 32
      ·rw [if_pos h32]; refine iT (by first | (simp (disch := omega) only [↓reduceIte, ↓jn, gsL, h32]; done) | rfl) ?_; rfl
      ·rw [if_neg h32]; refine iF (by first | (simp (disch := omega) only [↓reduceIte, ↓jn, gsL, h32]; done) | rfl) ?_; rw [n1, show (1 : Int) = ((1 : Nat) : Int) from rfl, fw_a (by clear n1; omega) (by clear n1; omega), Nat.add_comm]; rfl
theorem rescape_at {k : Nat} (hk : 10 ≤ k) {s : List Nat} (hs : By s) (hl : Sz s) (a : Nat) : g42 k s (a : Int) = some (escN (s.drop a)) := by
 have hl' := hl
 unfold Sz at hl
 unfold g42
 have fail : ∀ (f : Bool → Option (Int × Int)) (g : (Bool → Option (Int × Int)) → Option (Int × Int)), f true = some (-1, 0) → (∀ j, g j = j true) → escN (s.drop a) = (-1, 0) → jn f g = some (escN (s.drop a)) := by
  intro f g hf hg he
  rw [he]; exact (hg f).trans hf
 rcases Nat.lt_or_ge a s.length with h | h
 ·obtain ⟨c, r, hc, hr, hm, hrl⟩ := dcons h
  have nc := nthX (x := (a : Int)) rfl hc
  cases hr2 : r with
  | nil =>
   rw [hr2] at hrl hc
   simp only [List.length_nil] at hrl
   refine fail _ _ rfl (fun j => ?_) (by rw [hc]; rfl)
   simp (disch := omega) only [↓reduceIte, ↓jn, gsL]
  | cons d q =>
   rw [hr2] at hr hrl hc
   have d256 := hs d (drop_mem hr)
   simp only [List.length_cons] at hrl
   by_cases h92 : c = 92
   ·subst h92
    have nd : nthS s ((a : Int) + 1) = some (d : Int) := nthX (i := a + 1) (by omega) hr
    refine (jS (v := false) (fun j => ?_)).trans ?_
    ·simp (disch := omega) only [↓reduceIte, ↓jn, gsL, nc]
    ·refine iF (by first | (simp (disch := omega) only [↓reduceIte, ↓jn, gsL]; done) | rfl) ?_
     refine bS (by (try simp (disch := omega) only [fwI]); exact nd) ?_
     rw [hc]
     simp only [escN, if_true]
     obtain ⟨k', rfl⟩ : ∃ k', k = k' + 10 := ⟨k - 10, by omega⟩
     by_cases hd : nameN d = 0
     ·rw [rname_no _ _ _ hd]
      exact rescape_t hk hs hl' hr hd
     ·unfold nameN at hd
      by_cases e1 : d = 98
      ·subst e1; rfl
      by_cases e2 : d = 100
      ·subst e2; rfl
      by_cases e3 : d = 101
      ·subst e3; rfl
      by_cases e4 : d = 102
      ·subst e4; rfl
      by_cases e5 : d = 110
      ·subst e5; rfl
      by_cases e6 : d = 114
      ·subst e6; rfl
      by_cases e7 : d = 115
      ·subst e7; rfl
      by_cases e8 : d = 116
      ·subst e8; rfl
      by_cases e9 : d = 118
      ·subst e9; rfl
      simp only [e1, e2, e3, e4, e5, e6, e7, e8, e9, if_false] at hd
      exact absurd trivial hd
   ·refine fail _ _ rfl (fun j => ?_) (by rw [hc]; exact escN_no h92)
    have h92' : ¬ (c : Int) = 92 := by omega
    simp (disch := omega) only [↓reduceIte, ↓jn, gsL, nc, h92']
 ·refine fail _ _ rfl (fun j => ?_) (by rw [dnil h]; rfl)
  simp (disch := omega) only [↓reduceIte, ↓jn, gsL]
end Go.Proofs.Ytabhkocokojddaa.Am
set_option maxRecDepth 100000
set_option linter.unusedVariables false
set_option linter.unusedSimpArgs false
namespace Go.Proofs.Ytabhkocokojddaa.Am
open Go
theorem nthL_at {α : Type} {L : List α} {i : Nat} {x : α} {r : List α} (h : L.drop i = x :: r) : nthL L (i : Int) = some x := by
 unfold nthL
 rw [if_pos (by omega), Int.toNat_natCast]
 have := List.getElem?_drop (xs := L) (i := i) (j := 0)
 rw [h] at this
 simpa using this.symm
theorem dconsL {α : Type} {s : List α} {i : Nat} (h : i < s.length) : ∃ b r, s.drop i = b :: r ∧ s.drop (i + 1) = r ∧ b ∈ s ∧ r.length + i + 1 = s.length := by
 refine ⟨s[i], s.drop (i + 1), List.drop_eq_getElem_cons h, rfl, List.getElem_mem h, ?_⟩
 rw [List.length_drop]; omega
end Go.Proofs.Ytabhkocokojddaa.Am
set_option maxRecDepth 100000
set_option linter.unusedVariables false
set_option linter.unusedSimpArgs false
namespace Go.Proofs.Ytabhkocokojddaa.Am
open Go
theorem dec_ascii {c : Nat} (r : List Nat) (h : c < 128) : dec (c :: r) = ((c : Int), 1) := by
 have hl : leadN c = (1, c) := by unfold leadN; rw [if_pos h]
 have hc : cpN c = true := by unfold cpN; simp; omega
 have hm : moreN 0 c r = some c := by cases r <;> rfl
 simp only [dec, hl]
 rw [if_neg (by decide)]
 show fitN 1 (moreN 0 c r) = _
 rw [hm]
 show (if leastN 1 ≤ c ∧ cpN c = true then _ else _) = _
 rw [if_pos ⟨Nat.zero_le _, hc⟩]
 rfl
theorem dec_big {c : Nat} (r : List Nat) (h : ¬ c < 128) : (dec (c :: r)).1 = -1 ∨ 128 ≤ (dec (c :: r)).1 := by
 simp only [dec]
 split
 ·exact .inl rfl
 ·rename_i h0
  unfold fitN
  split
  ·exact .inl rfl
  ·split
   ·rename_i y hy hh
    right
    have : (leadN c).1 = 2 ∨ (leadN c).1 = 3 ∨ (leadN c).1 = 4 := by
     unfold leadN at h0 ⊢
     rw [if_neg h] at h0 ⊢
     split
     ·simp
     ·split
      ·simp
      ·split
       ·simp
       ·rename_i a b c; rw [if_neg a, if_neg b, if_neg c] at h0; exact absurd rfl h0
    have h1 := hh.1
    rcases this with e | e | e <;> rw [e] at h1 <;> simp [leastN] at h1 <;> (show (128 : Int) ≤ (_ : Int); omega)
   ·exact .inl rfl
theorem escN_cases (s : List Nat) : escN s = (-1, 0) ∨ ∃ v n : Nat, escN s = ((v : Int), (n : Int)) ∧ 2 ≤ n ∧ n ≤ s.length := by
 match s with
 | [] => exact .inl rfl
 | [a] => exact .inl rfl
 | a :: c :: r =>
  simp only [escN]
  split
  ·unfold escB
   split
   ·
    unfold hexN
    cases r with
    | nil => exact .inl rfl
    | cons d q =>
     simp only []
     split
     ·unfold hexBr
      split
      ·exact .inl rfl
      ·have h1 := (digV_le 16 6 0 q).2
       split
       ·rename_i hz
        split
        ·right
         refine ⟨_, _, rfl, by omega, ?_⟩
         have := congrArg List.length hz
         simp only [List.length_drop, List.length_cons] at this ⊢
         omega
        ·exact .inl rfl
       ·exact .inl rfl
     ·unfold hex2
      split
      ·exact .inl rfl
      ·have h1 := digV_le 16 2 0 (d :: q)
       right
       refine ⟨_, 4, rfl, by omega, ?_⟩
       simp only [List.length_cons] at h1 ⊢
       omega
   ·split
    ·unfold ctlN
     split
     ·split
      ·exact .inl rfl
      ·right; exact ⟨_, 3, rfl, by omega, by simp⟩
     ·exact .inl rfl
    ·split
     ·right
      rename_i h8
      have h1 := digV_le 8 3 0 (c :: r)
      refine ⟨_, _, rfl, ?_, ?_⟩
      ·have : dgN c < 8 := by unfold dgN; rw [if_pos (by omega)]; omega
       simp only [digV, this, if_true]; omega
      ·simp only [List.length_cons] at h1 ⊢; omega
     ·split
      ·unfold uniN
       split
       ·exact .inl rfl
       ·rename_i h32
        obtain ⟨n, n1, n2, n3, n4, -⟩ := dec_size (s := c :: r) (by simp)
        right
        refine ⟨(dec (c :: r)).1.toNat, n + 1, ?_, by omega, ?_⟩
        ·rw [n1]; refine Prod.ext ?_ ?_
         ·simp only []; omega
         ·simp only []; push_cast; rfl
        ·simp only [List.length_cons] at n4 ⊢; omega
      ·right; exact ⟨_, 2, rfl, by omega, by simp⟩
  ·exact .inl rfl
end Go.Proofs.Ytabhkocokojddaa.Am
set_option maxRecDepth 100000
set_option linter.unusedVariables false
set_option linter.unusedSimpArgs false
namespace Go.Proofs.Ytabhkocokojddaa.Am
open Go
theorem enc_dec {c : Nat} (h : cpN c = true) (r : List Nat) : dec (enc c ++ r) = ((c : Int), ((enc c).length : Int)) := by
 have hle := cp_le h
 have hd : ∀ c r, dec (c :: r) = if (leadN c).1 = 0 then (-1, 1) else fitN (leadN c).1 (moreN ((leadN c).1 - 1) (leadN c).2 r) := fun _ _ => rfl
 have m1 : ∀ n c b r, moreN (n + 1) c (b :: r) = if b / 64 = 2 then moreN n (c * 64 + b % 64) r else none := fun _ _ _ _ => rfl
 have m0 : ∀ c r, moreN 0 c r = some c := fun _ _ => rfl
 unfold enc
 by_cases h1 : c < 128
 ·rw [if_pos h1]
  have hL : leadN c = (1, c) := by unfold leadN; rw [if_pos h1]
  rw [List.cons_append, hd, hL]
  show fitN 1 (some c) = _
  unfold fitN
  simp only []
  rw [if_pos ⟨by simp [leastN], h⟩]
  rfl
 ·rw [if_neg h1]
  by_cases h2 : c < 2048
  ·rw [if_pos h2]
   have hL : leadN (192 + c / 64) = (2, c / 64) := by
    unfold leadN; rw [if_neg (by omega), if_pos (by omega)]
    rw [show (192 + c / 64) % 32 = c / 64 from by omega]
   rw [List.cons_append, hd, hL]
   show fitN 2 (moreN 1 (c / 64) ([128 + c % 64] ++ r)) = _
   rw [List.cons_append, m1, if_pos (by omega), m0, show c / 64 * 64 + (128 + c % 64) % 64 = c from by omega]
   unfold fitN
   simp only []
   rw [if_pos ⟨by simp [leastN]; omega, h⟩]
   rfl
  ·rw [if_neg h2]
   by_cases h3 : c < 65536
   ·rw [if_pos h3]
    have hL : leadN (224 + c / 4096) = (3, c / 4096) := by
     unfold leadN; rw [if_neg (by omega), if_neg (by omega), if_pos (by omega)]
     rw [show (224 + c / 4096) % 16 = c / 4096 from by omega]
    rw [List.cons_append, hd, hL]
    show fitN 3 (moreN 2 (c / 4096) ([128 + c / 64 % 64, 128 + c % 64] ++ r)) = _
    rw [List.cons_append, m1, if_pos (by omega), List.cons_append, m1, if_pos (by omega), m0, show (c / 4096 * 64 + (128 + c / 64 % 64) % 64) * 64 + (128 + c % 64) % 64 = c from by omega]
    unfold fitN
    simp only []
    rw [if_pos ⟨by simp [leastN]; omega, h⟩]
    rfl
   ·rw [if_neg h3]
    have hL : leadN (240 + c / 262144) = (4, c / 262144) := by
     unfold leadN; rw [if_neg (by omega), if_neg (by omega), if_neg (by omega), if_pos (by omega)]
     rw [show (240 + c / 262144) % 8 = c / 262144 from by omega]
    rw [List.cons_append, hd, hL]
    show fitN 4 (moreN 3 (c / 262144) ([128 + c / 4096 % 64, 128 + c / 64 % 64, 128 + c % 64] ++ r)) = _
    rw [List.cons_append, m1, if_pos (by omega), List.cons_append, m1, if_pos (by omega), List.cons_append, m1, if_pos (by omega), m0, show ((c / 262144 * 64 + (128 + c / 4096 % 64) % 64) * 64 + (128 + c / 64 % 64) % 64) * 64 + (128 + c % 64) % 64 = c from by omega]
    unfold fitN
    simp only []
    rw [if_pos ⟨by simp [leastN]; omega, h⟩]
    rfl
theorem enc_len (c : Nat) : 1 ≤ (enc c).length ∧ (enc c).length ≤ 4 := by
 unfold enc; repeat' split
 all_goals simp
theorem enc_bytes {c : Nat} (h : cpN c = true) : ∀ b ∈ enc c, b < 256 := by
 have hle := cp_le h
 intro b hb
 unfold enc at hb
 split at hb
 ·simp at hb; omega
 ·split at hb
  ·simp at hb; omega
  ·split at hb
   ·simp at hb; omega
   ·simp at hb; omega
theorem moreN_cont' : ∀ (n c : Nat) (r : List Nat) (y : Nat), moreN n c r = some y → ∀ j, j < n → ∃ b : Nat, r[j]? = some b ∧ b / 64 = 2
 | 0, _, _, _, _, j, hj => by omega
 | n + 1, c, [], y, h, j, hj => by cases h
 | n + 1, c, x :: r, y, h, j, hj => by
  have e : moreN (n + 1) c (x :: r) = if x / 64 = 2 then moreN n (c * 64 + x % 64) r else none := rfl
  rw [e] at h
  split at h
  ·cases j with
   | zero => exact ⟨x, rfl, by assumption⟩
   | succ j => exact moreN_cont' n _ r y h j (by omega)
  ·cases h
end Go.Proofs.Ytabhkocokojddaa.Am
set_option maxRecDepth 100000
set_option linter.unusedVariables false
namespace Go.Proofs.Ytabhkocokojddaa.Am
noncomputable section
open Go
def X39 : Fx (Int × Int) := ⟨Try.prog, cx, Try.f39, fun r => .tuple [.int .i64 r.1, .int .i64 r.2], 0, fun _ => H0, cxTi, cxOrd⟩
def g39p0 : Pt := nav [0] (bodyAt Try.f39)
def g39p1 : Pt := nav [0, 0, 0, 0] g39p0
def g39p2 : Pt := nav [0, 0] g39p1
def g39p4 : Pt := nav [2, 0, 0] g39p2
def g39p6 : Pt := nav [0, 0, 0, 0] g39p4
def g39p7 : Pt := nav [0, 0] g39p6
def g39p8 : Pt := nav [1, 0] g39p7
def g39p9 : Pt := nav [2, 0, 0, 0] g39p7
def g39p10 : Pt := nav [0, 0, 0] g39p8
def g39p11 : Pt := nav [0, 0] g39p9
def g39p12 : Pt := nav [0, 0] g39p10
def g39 (k : Nat) (a0 : (List Nat)) : Option (Int × Int) :=
 jn (fun (z4 : Bool) => if z4 then (some ((0 : Int), (8 : Int))) else ((g41 k a0 (1 : Int)).bind fun x1_1 => (nthS a0 1).bind fun x2_1 => jn (fun (z6 : Int × Int) => if (!decide (z6.2 = fW .i64 ((a0.length : Int) - 1))) then (some ((0 : Int), (8 : Int))) else (some (z6.1, (0 : Int)))) (fun j6 => if (!decide (x2_1 = 92)) then ((g78 k a0 (1 : Int)).bind fun x3_1 => jn (fun (z5 : Bool) => if z5 then (j6 (x3_1.1, 0)) else (j6 (x3_1.1, x3_1.2))) (fun j5 => if (decide (x3_1.1 ≤ 32)) then (j5 true) else (j5 (decide (x3_1.1 = 127))))) else (j6 (x1_1.1, x1_1.2))))) (fun j4 => if (decide ((a0.length : Int) < 2)) then (j4 true) else ((nthS a0 0).bind fun x0_5 => j4 (!decide (x0_5 = 36))))
theorem g39_ok (k : Nat) (a0 : (List Nat)) (r : (Int × Int)) (h : g39 k a0 = some r) : PureOk Try.prog 39 [.str a0] (.tuple [.int .i64 r.1, .int .i64 r.2]) := by
 refine pure_of X39 (fun _ => rfl) Try.func39 (by decide +kernel) (by kernel_rfl) (t := g39 k a0) ?_ h
 unfold g39
 refine oE (eE := [(0, .str a0)]) (by kernel_rfl) ?_
 let E1 : Env := [(9, .bool (decide ((a0.length : Int) < 2))), (8, .bool (decide ((a0.length : Int) < 2))), (7, .int .i64 (a0.length : Int)), (6, .str a0), (3, .int .i64 0), (2, .int .i64 0), (0, .str a0)]
 refine oR 12 (p' := (atN 4 (ctl1 g39p1))) (eE := E1) (H' := (mkH [])) (by kernel_rfl) ?_
 refine oJ (f := fun (z4 : Bool) => if z4 then (some ((0 : Int), (8 : Int))) else ((g41 k a0 (1 : Int)).bind fun x1_1 => (nthS a0 1).bind fun x2_1 => jn (fun (z6 : Int × Int) => if (!decide (z6.2 = fW .i64 ((a0.length : Int) - 1))) then (some ((0 : Int), (8 : Int))) else (some (z6.1, (0 : Int)))) (fun j6 => if (!decide (x2_1 = 92)) then ((g78 k a0 (1 : Int)).bind fun x3_1 => jn (fun (z5 : Bool) => if z5 then (j6 (x3_1.1, 0)) else (j6 (x3_1.1, x3_1.2))) (fun j5 => if (decide (x3_1.1 ≤ 32)) then (j5 true) else (j5 (decide (x3_1.1 = 127))))) else (j6 (x1_1.1, x1_1.2))))) g39p2 (fun (z4 : Bool) => [(0, .str a0), (13, .bool z4)]) (fun (z4 : Bool) => (mkH [])) (fun z4 => ?_) (fun j4 hj4 => ?_)
 ·refine oS 13 (b := z4) (by kernel_rfl) (fun hb => ?_) (fun hb => ?_)
  ·let E2 : Env := [(3, .int .i64 8), (2, .int .i64 0), (13, .bool true), (0, .str a0), (13, .bool z4)]
   refine oR 7 (p' := .fin) (eE := E2) (H' := (mkH [])) (by kernel_rfl) ?_
   exact oT (r := ((0 : Int), (8 : Int))) (xs := [.int .i64 0, .int .i64 8]) (v := .tuple [.int .i64 0, .int .i64 8]) (by kernel_rfl) (by kernel_rfl) (by kernel_rfl) (.pures (by kernel_rfl)) (by kernel_rfl)
  ·refine oR 5 (p' := (atN 1 (ctl1 g39p4))) (eE := [(15, .str a0), (13, .bool false), (0, .str a0), (13, .bool z4)]) (H' := (mkH [])) (by kernel_rfl) ?_
   refine oC (fun (x1_1 : (Int × Int)) => .tuple [.int .i64 x1_1.1, .int .i64 x1_1.2]) (atN 2 (ctl1 g39p4)) (fun x1_1 => [(16, .tuple [.int .i64 x1_1.1, .int .i64 x1_1.2]), (15, .str a0), (13, .bool false), (0, .str a0), (13, .bool z4)]) (fi := 41) (args := [.str a0, .int .i64 1]) (by kernel_rfl) (by kernel_rfl) (fun _ => by kernel_rfl) (fun r h => g41_ok k a0 (1 : Int) r h) (fun _ => by kernel_rfl) (fun x1_1 hx1_1 => ?_)
   let E3 : Env := [(5, .int .i64 x1_1.2), (4, .int .i64 x1_1.1), (18, .int .i64 x1_1.2), (17, .int .i64 x1_1.1), (14, .tuple [.int .i64 x1_1.1, .int .i64 x1_1.2]), (16, .tuple [.int .i64 x1_1.1, .int .i64 x1_1.2]), (15, .str a0), (13, .bool false), (0, .str a0), (13, .bool z4)]
   refine oR 8 (p' := g39p6) (eE := E3) (H' := (mkH [])) (by kernel_rfl) ?_
   refine oK [0, 4, 5] (eE := [(0, .str a0), (4, .int .i64 x1_1.1), (5, .int .i64 x1_1.2)]) (by kernel_rfl) ?_
   refine oR 2 (p' := (atN 1 (ctl1 g39p6))) (eE := [(19, .str a0), (0, .str a0), (4, .int .i64 x1_1.1), (5, .int .i64 x1_1.2)]) (H' := (mkH [])) (by kernel_rfl) ?_
   refine oH (fun (x2_1 : Int) => (.int .u8 x2_1, (mkH []))) (atN 2 (ctl1 g39p6)) (fun x2_1 => [(20, .int .u8 x2_1), (19, .str a0), (0, .str a0), (4, .int .i64 x1_1.1), (5, .int .i64 x1_1.2)]) (idxH (by kernel_rfl)) (fun _ => by kernel_rfl) (fun x2_1 hx2_1 => ?_)
   let E4 : Env := [(21, .bool (!decide (x2_1 = 92))), (20, .int .u8 x2_1), (19, .str a0), (0, .str a0), (4, .int .i64 x1_1.1), (5, .int .i64 x1_1.2)]
   refine oR 2 (p' := g39p7) (eE := E4) (H' := (mkH [])) (by kernel_rfl) ?_
   refine oJ (f := fun (z6 : Int × Int) => if (!decide (z6.2 = fW .i64 ((a0.length : Int) - 1))) then (some ((0 : Int), (8 : Int))) else (some (z6.1, (0 : Int)))) g39p9 (fun (z6 : Int × Int) => [(0, .str a0), (4, .int .i64 z6.1), (5, .int .i64 z6.2)]) (fun (z6 : Int × Int) => (mkH [])) (fun z6 => ?_) (fun j6 hj6 => ?_)
   ·let E5 : Env := [(37, .bool (!decide (z6.2 = fW .i64 ((a0.length : Int) - 1)))), (36, .int .i64 (fW .i64 ((a0.length : Int) - 1))), (35, .int .i64 (a0.length : Int)), (34, .str a0), (33, .int .i64 z6.2), (0, .str a0), (4, .int .i64 z6.1), (5, .int .i64 z6.2)]
    refine oR 7 (p' := g39p11) (eE := E5) (H' := (mkH [])) (by kernel_rfl) ?_
    refine oS 37 (b := !decide (z6.2 = fW .i64 ((a0.length : Int) - 1))) (by kernel_rfl) (fun hb => ?_) (fun hb => ?_)
    ·refine oR 7 (p' := .fin) (eE := ((3, .int .i64 8) :: (2, .int .i64 0) :: (37, .bool true) :: E5)) (H' := (mkH [])) (by kernel_rfl) ?_
     exact oT (r := ((0 : Int), (8 : Int))) (xs := [.int .i64 0, .int .i64 8]) (v := .tuple [.int .i64 0, .int .i64 8]) (by kernel_rfl) (by kernel_rfl) (by kernel_rfl) (.pures (by kernel_rfl)) (by kernel_rfl)
    ·refine oR 9 (p' := .fin) (eE := ((3, .int .i64 0) :: (2, .int .i64 z6.1) :: (38, .int .i64 z6.1) :: (37, .bool false) :: E5)) (H' := (mkH [])) (by kernel_rfl) ?_
     exact oT (r := (z6.1, (0 : Int))) (xs := [.int .i64 z6.1, .int .i64 0]) (v := .tuple [.int .i64 z6.1, .int .i64 0]) (by kernel_rfl) (by kernel_rfl) (by kernel_rfl) (.pures (by kernel_rfl)) (by kernel_rfl)
   ·refine oS 21 (b := !decide (x2_1 = 92)) (by kernel_rfl) (fun hb => ?_) (fun hb => ?_)
    ·refine oR 4 (p' := (atN 1 (ctl1 g39p8))) (eE := ((23, .str a0) :: (21, .bool true) :: E4)) (H' := (mkH [])) (by kernel_rfl) ?_
     refine oC (fun (x3_1 : (Int × Int)) => .tuple [.int .i64 x3_1.1, .int .i64 x3_1.2]) (atN 2 (ctl1 g39p8)) (fun x3_1 => ((24, .tuple [.int .i64 x3_1.1, .int .i64 x3_1.2]) :: (23, .str a0) :: (21, .bool true) :: E4)) (fi := 78) (args := [.str a0, .int .i64 1]) (by kernel_rfl) (by kernel_rfl) (fun _ => by kernel_rfl) (fun r h => g78_ok k a0 (1 : Int) r h) (fun _ => by kernel_rfl) (fun x3_1 hx3_1 => ?_)
     let E6 : Env := ((5, .int .i64 x3_1.2) :: (4, .int .i64 x3_1.1) :: (26, .int .i64 x3_1.2) :: (25, .int .i64 x3_1.1) :: (22, .tuple [.int .i64 x3_1.1, .int .i64 x3_1.2]) :: (24, .tuple [.int .i64 x3_1.1, .int .i64 x3_1.2]) :: (23, .str a0) :: (21, .bool true) :: E4)
     refine oR 7 (p' := g39p10) (eE := E6) (H' := (mkH [])) (by kernel_rfl) ?_
     refine oK [0, 4, 5] (eE := [(0, .str a0), (4, .int .i64 x3_1.1), (5, .int .i64 x3_1.2)]) (by kernel_rfl) ?_
     let E7 : Env := [(29, .bool (decide (x3_1.1 ≤ 32))), (28, .bool (decide (x3_1.1 ≤ 32))), (27, .int .i64 x3_1.1), (0, .str a0), (4, .int .i64 x3_1.1), (5, .int .i64 x3_1.2)]
     refine oR 4 (p' := (atN 3 (ctl1 g39p10))) (eE := E7) (H' := (mkH [])) (by kernel_rfl) ?_
     refine oJ (f := fun (z5 : Bool) => if z5 then (j6 (x3_1.1, 0)) else (j6 (x3_1.1, x3_1.2))) g39p12 (fun (z5 : Bool) => [(0, .str a0), (4, .int .i64 x3_1.1), (5, .int .i64 x3_1.2), (32, .bool z5)]) (fun (z5 : Bool) => (mkH [])) (fun z5 => ?_) (fun j5 hj5 => ?_)
     ·refine oS 32 (b := z5) (by kernel_rfl) (fun hb => ?_) (fun hb => ?_)
      ·let E8 : Env := [(5, .int .i64 0), (32, .bool true), (0, .str a0), (4, .int .i64 x3_1.1), (5, .int .i64 x3_1.2), (32, .bool z5)]
       refine oR 6 (p' := g39p9) (eE := E8) (H' := (mkH [])) (by kernel_rfl) ?_
       refine oK [0, 4, 5] (eE := [(0, .str a0), (4, .int .i64 x3_1.1), (5, .int .i64 0)]) (by kernel_rfl) ?_
       exact hj6 (x3_1.1, 0)
      ·let E9 : Env := [(32, .bool false), (0, .str a0), (4, .int .i64 x3_1.1), (5, .int .i64 x3_1.2), (32, .bool z5)]
       refine oR 4 (p' := g39p9) (eE := E9) (H' := (mkH [])) (by kernel_rfl) ?_
       refine oK [0, 4, 5] (eE := [(0, .str a0), (4, .int .i64 x3_1.1), (5, .int .i64 x3_1.2)]) (by kernel_rfl) ?_
       exact hj6 (x3_1.1, x3_1.2)
     ·refine oS 29 (b := decide (x3_1.1 ≤ 32)) (by kernel_rfl) (fun hb => ?_) (fun hb => ?_)
      ·refine oR 4 (p' := g39p12) (eE := ((32, .bool true) :: (31, .tuple []) :: (30, .tuple []) :: (29, .bool true) :: E7)) (H' := (mkH [])) (by kernel_rfl) ?_
       refine oK [0, 4, 5, 32] (eE := [(0, .str a0), (4, .int .i64 x3_1.1), (5, .int .i64 x3_1.2), (32, .bool true)]) (by kernel_rfl) ?_
       exact hj5 true
      ·refine oR 4 (p' := g39p12) (eE := ((32, .bool (decide (x3_1.1 = 127))) :: (31, .bool (decide (x3_1.1 = 127))) :: (30, .int .i64 x3_1.1) :: (29, .bool false) :: E7)) (H' := (mkH [])) (by kernel_rfl) ?_
       refine oK [0, 4, 5, 32] (eE := [(0, .str a0), (4, .int .i64 x3_1.1), (5, .int .i64 x3_1.2), (32, .bool (decide (x3_1.1 = 127)))]) (by kernel_rfl) ?_
       exact hj5 (decide (x3_1.1 = 127))
    ·refine oR 4 (p' := g39p9) (eE := ((21, .bool false) :: E4)) (H' := (mkH [])) (by kernel_rfl) ?_
     refine oK [0, 4, 5] (eE := [(0, .str a0), (4, .int .i64 x1_1.1), (5, .int .i64 x1_1.2)]) (by kernel_rfl) ?_
     exact hj6 (x1_1.1, x1_1.2)
 ·refine oS 9 (b := decide ((a0.length : Int) < 2)) (by kernel_rfl) (fun hb => ?_) (fun hb => ?_)
  ·let E10 : Env := ((13, .bool true) :: (12, .tuple []) :: (11, .tuple []) :: (10, .tuple []) :: (9, .bool true) :: E1)
   refine oR 5 (p' := g39p2) (eE := E10) (H' := (mkH [])) (by kernel_rfl) ?_
   refine oK [0, 13] (eE := [(0, .str a0), (13, .bool true)]) (by kernel_rfl) ?_
   exact hj4 true
  ·refine oR 1 (p' := (atN 5 (ctl1 g39p1))) (eE := ((10, .str a0) :: (9, .bool false) :: E1)) (H' := (mkH [])) (by kernel_rfl) ?_
   refine oH (fun (x0_5 : Int) => (.int .u8 x0_5, (mkH []))) (atN 6 (ctl1 g39p1)) (fun x0_5 => ((11, .int .u8 x0_5) :: (10, .str a0) :: (9, .bool false) :: E1)) (idxH (by kernel_rfl)) (fun _ => by kernel_rfl) (fun x0_5 hx0_5 => ?_)
   let E11 : Env := ((13, .bool (!decide (x0_5 = 36))) :: (12, .bool (!decide (x0_5 = 36))) :: (11, .int .u8 x0_5) :: (10, .str a0) :: (9, .bool false) :: E1)
   refine oR 3 (p' := g39p2) (eE := E11) (H' := (mkH [])) (by kernel_rfl) ?_
   refine oK [0, 13] (eE := [(0, .str a0), (13, .bool (!decide (x0_5 = 36)))]) (by kernel_rfl) ?_
   exact hj4 (!decide (x0_5 = 36))
end
end Go.Proofs.Ytabhkocokojddaa.Am
set_option maxRecDepth 100000
set_option linter.unusedVariables false
namespace Go.Proofs.Ytabhkocokojddaa.Am
noncomputable section
open Go
def X43 : Fx ((List Int) × Int) := ⟨Try.prog, cx, Try.f43, fun r => .tuple [.vec (r.1).length 1 ((r.1).flatMap e3), .int .i64 r.2], 0, fun _ => H0, cxTi, cxOrd⟩
def g43p0 : Pt := nav [0] (bodyAt Try.f43)
def g43p1 : Pt := nav [0, 0, 0, 0] g43p0
def g43p2 : Pt := nav [0] g43p1
def g43p4 : Pt := nav [2, 0, 0] g43p2
def g43p6 : Pt := nav [0, 0, 0] g43p4
def g43p7 : Pt := nav [0, 0, 0, 0, 0] g43p6
def g43p8 : Pt := nav [0, 0, 0] g43p7
def g43p9 : Pt := nav [0, 0] g43p8
def g43p10 : Pt := nav [1, 0, 0, 0] g43p9
def g43p11 : Pt := nav [2, 0, 0, 0] g43p9
def g43p12 : Pt := nav [0, 0, 0, 0, 0] g43p10
def g43p13 : Pt := nav [0, 0] g43p11
def g43p14 : Pt := nav [0, 0] g43p12
def g43p17 : Pt := nav [1, 0] g43p14
def g43p18 : Pt := nav [2, 0] g43p14
def g43p19 : Pt := nav [0, 0, 0] g43p17
def g43p20 : Pt := nav [0] g43p18
def g43p21 : Pt := nav [0, 0] g43p19
def g43p23 : Pt := nav [2, 0] g43p20
def g43_l7 (k : Nat)  (a0 : (List Nat)) (n : Nat) : Int → (List Int) → Option ((List Int) × Int) :=
 Nat.rec (motive := fun _ => Int → (List Int) → Option ((List Int) × Int)) (fun _ _ => none) (fun _ ih => fun (y7_0 : Int) (y7_1 : (List Int)) => if (decide (y7_0 < fW .i64 ((a0.length : Int) - 1))) then ((g78 k a0 y7_0).bind fun x1_2 => (nthS a0 y7_0).bind fun x2_2 => jn (fun (z8 : Int × Int × Int × (List Int)) => (appS 8 z8.2.2.2 ([z8.2.1] : List Int)).bind fun x5_3 => ih (fW .i64 (z8.2.2.1 + z8.1)) x5_3) (fun j8 => if (decide (x2_2 = 92)) then ((subL a0 none (some (fW .i64 ((a0.length : Int) - 1)))).bind fun x3_2 => (g41 k x3_2 y7_0).bind fun x3_4 => if (decide (x3_4.2 = 0)) then (some (([] : List Int), (8 : Int))) else (j8 (x3_4.2, x3_4.1, y7_0, y7_1))) else (jn (fun (z9 : Bool × Int × (List Int)) => if z9.1 then (some (([] : List Int), (8 : Int))) else (j8 (x1_2.2, x1_2.1, z9.2.1, z9.2.2))) (fun j9 => (nthS a0 y7_0).bind fun x4_2 => (nthS a0 0).bind fun x4_4 => if (decide (x4_2 = x4_4)) then (j9 (true, y7_0, y7_1)) else (j9 (decide (x1_2.1 < 32), y7_0, y7_1)))))) else (if (!decide (y7_0 = fW .i64 ((a0.length : Int) - 1))) then (some (([] : List Int), (8 : Int))) else (some (y7_1, (0 : Int))))) n
theorem g43_l7_s (k : Nat)  (a0 : (List Nat)) (n : Nat) (y7_0 : Int) (y7_1 : (List Int)) : g43_l7 k a0 (n + 1) y7_0 y7_1 = (if (decide (y7_0 < fW .i64 ((a0.length : Int) - 1))) then ((g78 k a0 y7_0).bind fun x1_2 => (nthS a0 y7_0).bind fun x2_2 => jn (fun (z8 : Int × Int × Int × (List Int)) => (appS 8 z8.2.2.2 ([z8.2.1] : List Int)).bind fun x5_3 => (g43_l7 k a0 n) (fW .i64 (z8.2.2.1 + z8.1)) x5_3) (fun j8 => if (decide (x2_2 = 92)) then ((subL a0 none (some (fW .i64 ((a0.length : Int) - 1)))).bind fun x3_2 => (g41 k x3_2 y7_0).bind fun x3_4 => if (decide (x3_4.2 = 0)) then (some (([] : List Int), (8 : Int))) else (j8 (x3_4.2, x3_4.1, y7_0, y7_1))) else (jn (fun (z9 : Bool × Int × (List Int)) => if z9.1 then (some (([] : List Int), (8 : Int))) else (j8 (x1_2.2, x1_2.1, z9.2.1, z9.2.2))) (fun j9 => (nthS a0 y7_0).bind fun x4_2 => (nthS a0 0).bind fun x4_4 => if (decide (x4_2 = x4_4)) then (j9 (true, y7_0, y7_1)) else (j9 (decide (x1_2.1 < 32), y7_0, y7_1)))))) else (if (!decide (y7_0 = fW .i64 ((a0.length : Int) - 1))) then (some (([] : List Int), (8 : Int))) else (some (y7_1, (0 : Int))))) := rfl
theorem g43_l7_ok (k : Nat)  (a0 : (List Nat))  : ∀ (n : Nat) (y7_0 : Int) (y7_1 : (List Int)), Ok X43 g43p7 [(0, .str a0), (4, .own 0 (y7_1).length 1), (5, .int .i64 y7_0), (6, .int .i64 (fW .i64 ((a0.length : Int) - 1)))] (mkH [⟨(y7_1).flatMap e3, 0, false⟩]) (g43_l7 k a0 n y7_0 y7_1)
 | 0, _, _ => ok_none
 | n + 1, y7_0, y7_1 => by
  have ih := g43_l7_ok k a0 n
  rw [g43_l7_s]
  refine ok_ent (p' := nav [0] g43p7) (by kernel_rfl) ?_
  let E3 : Env := [(37, .bool (decide (y7_0 < fW .i64 ((a0.length : Int) - 1)))), (36, .int .i64 (fW .i64 ((a0.length : Int) - 1))), (35, .int .i64 y7_0), (0, .str a0), (4, .own 0 (y7_1).length 1), (5, .int .i64 y7_0), (6, .int .i64 (fW .i64 ((a0.length : Int) - 1)))]
  refine oR 7 (p' := g43p9) (eE := E3) (H' := (mkH [⟨(y7_1).flatMap e3, 0, false⟩])) (by kernel_rfl) ?_
  refine oS 37 (b := decide (y7_0 < fW .i64 ((a0.length : Int) - 1))) (by kernel_rfl) (fun hb => ?_) (fun hb => ?_)
  ·refine oR 7 (p' := (atN 2 (ctl1 g43p10))) (eE := ((40, .int .i64 y7_0) :: (39, .str a0) :: (37, .bool true) :: E3)) (H' := (mkH [⟨(y7_1).flatMap e3, 0, false⟩])) (by kernel_rfl) ?_
   refine oC (fun (x1_2 : (Int × Int)) => .tuple [.int .i64 x1_2.1, .int .i64 x1_2.2]) (atN 3 (ctl1 g43p10)) (fun x1_2 => ((41, .tuple [.int .i64 x1_2.1, .int .i64 x1_2.2]) :: (40, .int .i64 y7_0) :: (39, .str a0) :: (37, .bool true) :: E3)) (fi := 78) (args := [.str a0, .int .i64 y7_0]) (by kernel_rfl) (by kernel_rfl) (fun _ => by kernel_rfl) (fun r h => g78_ok k a0 y7_0 r h) (fun _ => by kernel_rfl) (fun x1_2 hx1_2 => ?_)
   let E4 : Env := ((8, .int .i64 x1_2.2) :: (7, .int .i64 x1_2.1) :: (43, .int .i64 x1_2.2) :: (42, .int .i64 x1_2.1) :: (38, .tuple [.int .i64 x1_2.1, .int .i64 x1_2.2]) :: (41, .tuple [.int .i64 x1_2.1, .int .i64 x1_2.2]) :: (40, .int .i64 y7_0) :: (39, .str a0) :: (37, .bool true) :: E3)
   refine oR 9 (p' := g43p12) (eE := E4) (H' := (mkH [⟨(y7_1).flatMap e3, 0, false⟩])) (by kernel_rfl) ?_
   refine oK [0, 4, 5, 6, 7, 8] (eE := [(0, .str a0), (4, .own 0 (y7_1).length 1), (5, .int .i64 y7_0), (6, .int .i64 (fW .i64 ((a0.length : Int) - 1))), (7, .int .i64 x1_2.1), (8, .int .i64 x1_2.2)]) (by kernel_rfl) ?_
   let E5 : Env := [(46, .int .i64 y7_0), (45, .str a0), (0, .str a0), (4, .own 0 (y7_1).length 1), (5, .int .i64 y7_0), (6, .int .i64 (fW .i64 ((a0.length : Int) - 1))), (7, .int .i64 x1_2.1), (8, .int .i64 x1_2.2)]
   refine oR 3 (p' := (atN 2 (ctl1 g43p12))) (eE := E5) (H' := (mkH [⟨(y7_1).flatMap e3, 0, false⟩])) (by kernel_rfl) ?_
   refine oH (fun (x2_2 : Int) => (.int .u8 x2_2, (mkH [⟨(y7_1).flatMap e3, 0, false⟩]))) (atN 3 (ctl1 g43p12)) (fun x2_2 => ((47, .int .u8 x2_2) :: E5)) (idxH (by kernel_rfl)) (fun _ => by kernel_rfl) (fun x2_2 hx2_2 => ?_)
   refine oR 3 (p' := g43p14) (eE := ((44, .bool (decide (x2_2 = 92))) :: (48, .bool (decide (x2_2 = 92))) :: (47, .int .u8 x2_2) :: E5)) (H' := (mkH [⟨(y7_1).flatMap e3, 0, false⟩])) (by kernel_rfl) ?_
   refine oJ (f := fun (z8 : Int × Int × Int × (List Int)) => (appS 8 z8.2.2.2 ([z8.2.1] : List Int)).bind fun x5_3 => (g43_l7 k a0 n) (fW .i64 (z8.2.2.1 + z8.1)) x5_3) g43p23 (fun (z8 : Int × Int × Int × (List Int)) => [(0, .str a0), (4, .own 0 (z8.2.2.2).length 1), (5, .int .i64 z8.2.2.1), (6, .int .i64 (fW .i64 ((a0.length : Int) - 1))), (7, .int .i64 z8.2.1), (8, .int .i64 z8.1)]) (fun (z8 : Int × Int × Int × (List Int)) => (mkH [⟨(z8.2.2.2).flatMap e3, 0, false⟩])) (fun z8 => ?_) (fun j8 hj8 => ?_)
   ·let E6 : Env := [(72, .slice 1 1 0 1 1), (71, .int .i64 z8.2.1), (70, .own 0 (z8.2.2.2).length 1), (0, .str a0), (4, .own 0 (z8.2.2.2).length 1), (5, .int .i64 z8.2.2.1), (6, .int .i64 (fW .i64 ((a0.length : Int) - 1))), (7, .int .i64 z8.2.1), (8, .int .i64 z8.1)]
    refine oR 4 (p' := (atN 3 (ctl1 g43p23))) (eE := E6) (H' := (mkH [⟨(z8.2.2.2).flatMap e3, 0, false⟩, ⟨[.int .i64 z8.2.1], 0, false⟩])) (by kernel_rfl) ?_
    refine oH (fun (x5_3 : (List Int)) => (.own 0 (x5_3).length 1, (mkH [⟨(x5_3).flatMap e3, 0, false⟩, ⟨[.int .i64 z8.2.1], 0, false⟩]))) (atN 4 (ctl1 g43p23)) (fun x5_3 => ((73, .own 0 (x5_3).length 1) :: E6)) (appH (sz := 1) e3_len rfl e3_one [⟨(z8.2.2.2).flatMap e3, 0, false⟩, ⟨[.int .i64 z8.2.1], 0, false⟩] 0 8 z8.2.2.2 ([z8.2.1] : List Int) rfl rfl (by kernel_rfl)) (fun _ => by kernel_rfl) (fun x5_3 hx5_3 => ?_)
    let E7 : Env := ((5, .int .i64 (fW .i64 (z8.2.2.1 + z8.1))) :: (4, .own 0 (x5_3).length 1) :: (76, .int .i64 (fW .i64 (z8.2.2.1 + z8.1))) :: (75, .int .i64 z8.1) :: (74, .int .i64 z8.2.2.1) :: (73, .own 0 (x5_3).length 1) :: E6)
    refine oR 6 (p' := g43p7) (eE := E7) (H' := (mkH [⟨(x5_3).flatMap e3, 0, false⟩, ⟨[.int .i64 z8.2.1], 0, false⟩])) (by kernel_rfl) ?_
    refine oK [0, 4, 5, 6] (eE := [(0, .str a0), (4, .own 0 (x5_3).length 1), (5, .int .i64 (fW .i64 (z8.2.2.1 + z8.1))), (6, .int .i64 (fW .i64 ((a0.length : Int) - 1)))]) (by kernel_rfl) ?_
    refine ok_cut [⟨(x5_3).flatMap e3, 0, false⟩] [⟨[.int .i64 z8.2.1], 0, false⟩] (by kernel_rfl) rfl (by kernel_rfl) ⟨(purs_belows _ (purs_flatMap e3_pur _)), trivial⟩ ?_
    exact ih (fW .i64 (z8.2.2.1 + z8.1)) x5_3
   ·refine oS 44 (b := decide (x2_2 = 92)) (by kernel_rfl) (fun hb => ?_) (fun hb => ?_)
    ·let E8 : Env := ((51, .int .i64 (fW .i64 ((a0.length : Int) - 1))) :: (50, .str a0) :: (44, .bool true) :: (44, .bool (decide (x2_2 = 92))) :: (48, .bool (decide (x2_2 = 92))) :: (47, .int .u8 x2_2) :: E5)
     refine oR 5 (p' := (atN 2 (ctl1 g43p17))) (eE := E8) (H' := (mkH [⟨(y7_1).flatMap e3, 0, false⟩])) (by kernel_rfl) ?_
     refine oH (fun (x3_2 : (List Nat)) => (.str x3_2, (mkH [⟨(y7_1).flatMap e3, 0, false⟩]))) (atN 3 (ctl1 g43p17)) (fun x3_2 => ((52, .str x3_2) :: E8)) (subH none (some (fW .i64 ((a0.length : Int) - 1))) (by kernel_rfl)) (fun _ => by kernel_rfl) (fun x3_2 hx3_2 => ?_)
     refine oR 1 (p' := (atN 4 (ctl1 g43p17))) (eE := ((53, .int .i64 y7_0) :: (52, .str x3_2) :: E8)) (H' := (mkH [⟨(y7_1).flatMap e3, 0, false⟩])) (by kernel_rfl) ?_
     refine oC (fun (x3_4 : (Int × Int)) => .tuple [.int .i64 x3_4.1, .int .i64 x3_4.2]) (atN 5 (ctl1 g43p17)) (fun x3_4 => ((54, .tuple [.int .i64 x3_4.1, .int .i64 x3_4.2]) :: (53, .int .i64 y7_0) :: (52, .str x3_2) :: E8)) (fi := 41) (args := [.str x3_2, .int .i64 y7_0]) (by kernel_rfl) (by kernel_rfl) (fun _ => by kernel_rfl) (fun r h => g41_ok k x3_2 y7_0 r h) (fun _ => by kernel_rfl) (fun x3_4 hx3_4 => ?_)
     let E9 : Env := ((8, .int .i64 x3_4.2) :: (7, .int .i64 x3_4.1) :: (56, .int .i64 x3_4.2) :: (55, .int .i64 x3_4.1) :: (49, .tuple [.int .i64 x3_4.1, .int .i64 x3_4.2]) :: (54, .tuple [.int .i64 x3_4.1, .int .i64 x3_4.2]) :: (53, .int .i64 y7_0) :: (52, .str x3_2) :: E8)
     refine oR 7 (p' := g43p19) (eE := E9) (H' := (mkH [⟨(y7_1).flatMap e3, 0, false⟩])) (by kernel_rfl) ?_
     refine oK [0, 4, 5, 6, 7, 8] (eE := [(0, .str a0), (4, .own 0 (y7_1).length 1), (5, .int .i64 y7_0), (6, .int .i64 (fW .i64 ((a0.length : Int) - 1))), (7, .int .i64 x3_4.1), (8, .int .i64 x3_4.2)]) (by kernel_rfl) ?_
     let E10 : Env := [(58, .bool (decide (x3_4.2 = 0))), (57, .int .i64 x3_4.2), (0, .str a0), (4, .own 0 (y7_1).length 1), (5, .int .i64 y7_0), (6, .int .i64 (fW .i64 ((a0.length : Int) - 1))), (7, .int .i64 x3_4.1), (8, .int .i64 x3_4.2)]
     refine oR 4 (p' := g43p21) (eE := E10) (H' := (mkH [⟨(y7_1).flatMap e3, 0, false⟩])) (by kernel_rfl) ?_
     refine oS 58 (b := decide (x3_4.2 = 0)) (by kernel_rfl) (fun hb => ?_) (fun hb => ?_)
     ·refine oR 7 (p' := .fin) (eE := ((3, .int .i64 8) :: (2, .nils) :: (58, .bool true) :: E10)) (H' := (mkH [⟨(y7_1).flatMap e3, 0, false⟩])) (by kernel_rfl) ?_
      exact oT (r := (([] : List Int), (8 : Int))) (xs := [.nils, .int .i64 8]) (v := .tuple [.vec 0 1 [], .int .i64 8]) (by kernel_rfl) (by kernel_rfl) (by kernel_rfl) (.tuple (.nil (.pures (by kernel_rfl))) (.pures (by kernel_rfl))) (by kernel_rfl)
     ·refine oR 2 (p' := g43p23) (eE := ((58, .bool false) :: E10)) (H' := (mkH [⟨(y7_1).flatMap e3, 0, false⟩])) (by kernel_rfl) ?_
      refine oK [0, 4, 5, 6, 7, 8] (eE := [(0, .str a0), (4, .own 0 (y7_1).length 1), (5, .int .i64 y7_0), (6, .int .i64 (fW .i64 ((a0.length : Int) - 1))), (7, .int .i64 x3_4.1), (8, .int .i64 x3_4.2)]) (by kernel_rfl) ?_
      exact hj8 (x3_4.2, x3_4.1, y7_0, y7_1)
    ·refine oR 2 (p' := g43p18) (eE := ((44, .bool false) :: (44, .bool (decide (x2_2 = 92))) :: (48, .bool (decide (x2_2 = 92))) :: (47, .int .u8 x2_2) :: E5)) (H' := (mkH [⟨(y7_1).flatMap e3, 0, false⟩])) (by kernel_rfl) ?_
     refine oJ (f := fun (z9 : Bool × Int × (List Int)) => if z9.1 then (some (([] : List Int), (8 : Int))) else (j8 (x1_2.2, x1_2.1, z9.2.1, z9.2.2))) g43p20 (fun (z9 : Bool × Int × (List Int)) => [(0, .str a0), (4, .own 0 (z9.2.2).length 1), (5, .int .i64 z9.2.1), (6, .int .i64 (fW .i64 ((a0.length : Int) - 1))), (7, .int .i64 x1_2.1), (8, .int .i64 x1_2.2), (59, .bool z9.1)]) (fun (z9 : Bool × Int × (List Int)) => (mkH [⟨(z9.2.2).flatMap e3, 0, false⟩])) (fun z9 => ?_) (fun j9 hj9 => ?_)
     ·refine oS 59 (b := z9.1) (by kernel_rfl) (fun hb => ?_) (fun hb => ?_)
      ·let E12 : Env := [(3, .int .i64 8), (2, .nils), (59, .bool true), (0, .str a0), (4, .own 0 (z9.2.2).length 1), (5, .int .i64 z9.2.1), (6, .int .i64 (fW .i64 ((a0.length : Int) - 1))), (7, .int .i64 x1_2.1), (8, .int .i64 x1_2.2), (59, .bool z9.1)]
       refine oR 7 (p' := .fin) (eE := E12) (H' := (mkH [⟨(z9.2.2).flatMap e3, 0, false⟩])) (by kernel_rfl) ?_
       exact oT (r := (([] : List Int), (8 : Int))) (xs := [.nils, .int .i64 8]) (v := .tuple [.vec 0 1 [], .int .i64 8]) (by kernel_rfl) (by kernel_rfl) (by kernel_rfl) (.tuple (.nil (.pures (by kernel_rfl))) (.pures (by kernel_rfl))) (by kernel_rfl)
      ·let E13 : Env := [(59, .bool false), (0, .str a0), (4, .own 0 (z9.2.2).length 1), (5, .int .i64 z9.2.1), (6, .int .i64 (fW .i64 ((a0.length : Int) - 1))), (7, .int .i64 x1_2.1), (8, .int .i64 x1_2.2), (59, .bool z9.1)]
       refine oR 2 (p' := g43p23) (eE := E13) (H' := (mkH [⟨(z9.2.2).flatMap e3, 0, false⟩])) (by kernel_rfl) ?_
       refine oK [0, 4, 5, 6, 7, 8] (eE := [(0, .str a0), (4, .own 0 (z9.2.2).length 1), (5, .int .i64 z9.2.1), (6, .int .i64 (fW .i64 ((a0.length : Int) - 1))), (7, .int .i64 x1_2.1), (8, .int .i64 x1_2.2)]) (by kernel_rfl) ?_
       exact hj8 (x1_2.2, x1_2.1, z9.2.1, z9.2.2)
     ·refine ok_bind (fun x4_2 hx4_2 => ?_)
      refine ok_bind (fun x4_4 hx4_4 => ?_)
      refine ok_if (fun hb8 => ?_) (fun hb8 => ?_)
      ·let E14 : Env := [(61, .int .i64 y7_0), (60, .str a0), (44, .bool false), (44, .bool (decide (x2_2 = 92))), (48, .bool (decide (x2_2 = 92))), (47, .int .u8 x2_2), (46, .int .i64 y7_0), (45, .str a0), (0, .str a0), (4, .own 0 (y7_1).length 1), (5, .int .i64 y7_0), (6, .int .i64 (fW .i64 ((a0.length : Int) - 1))), (7, .int .i64 x1_2.1), (8, .int .i64 x1_2.2)]
       let E15 : Env := ((66, .bool (decide (x4_2 = x4_4))) :: (65, .bool (decide (x4_2 = x4_4))) :: (64, .int .u8 x4_4) :: (63, .str a0) :: (62, .int .u8 x4_2) :: E14)
       let E16 : Env := [(59, .bool true), (69, .bool true), (68, .tuple []), (67, .tuple []), (66, .bool true), (65, .bool true), (64, .int .u8 x4_4), (63, .str a0), (62, .int .u8 x4_2), (61, .int .i64 y7_0), (60, .str a0), (44, .bool false), (44, .bool (decide (x2_2 = 92))), (48, .bool (decide (x2_2 = 92))), (47, .int .u8 x2_2), (46, .int .i64 y7_0), (45, .str a0), (0, .str a0), (4, .own 0 (y7_1).length 1), (5, .int .i64 y7_0), (6, .int .i64 (fW .i64 ((a0.length : Int) - 1))), (7, .int .i64 x1_2.1), (8, .int .i64 x1_2.2)]
       refine ok_draw (p' := nav [0] g43p18) (eE := E16) (H' := (mkH [⟨(y7_1).flatMap e3, 0, false⟩])) (hs := []) [(0, 0, 0), (0, 0, 0), (3, 0, 0), (0, 0, 0), (8, 0, 0), (31, 0, 0), (63, 0, 0), (127, 0, 0), (255, 0, 0), (511, 0, 0), (1023, 0, 0)] (by kernel_rfl) (by kernel_rfl) (by kernel_rfl) (opsD_run 2 (l' := (opsAt g43p18).toList.drop 2) (eE := E14) (H' := (mkH [⟨(y7_1).flatMap e3, 0, false⟩])) (hs := []) (by kernel_rfl) (opsD_chk (l' := (opsAt g43p18).toList.drop 3) (eE := ((62, .int .u8 x4_2) :: E14)) (hs := []) (x := x4_2) (fun (x4_2 : Int) => (.int .u8 x4_2, (mkH [⟨(y7_1).flatMap e3, 0, false⟩]))) (idxH (by kernel_rfl)) hx4_2 (by kernel_rfl) (opsD_run 1 (l' := (opsAt g43p18).toList.drop 4) (eE := ((63, .str a0) :: (62, .int .u8 x4_2) :: E14)) (H' := (mkH [⟨(y7_1).flatMap e3, 0, false⟩])) (hs := []) (by kernel_rfl) (opsD_chk (l' := (opsAt g43p18).toList.drop 5) (eE := ((64, .int .u8 x4_4) :: (63, .str a0) :: (62, .int .u8 x4_2) :: E14)) (hs := []) (x := x4_4) (fun (x4_4 : Int) => (.int .u8 x4_4, (mkH [⟨(y7_1).flatMap e3, 0, false⟩]))) (idxH (by kernel_rfl)) hx4_4 (by kernel_rfl) (opsD_run 2 (l' := (opsAt g43p18).toList.drop 7) (eE := E15) (H' := (mkH [⟨(y7_1).flatMap e3, 0, false⟩])) (hs := []) (by kernel_rfl) (opsD_env (eE := [(66, .bool true), (65, .bool true), (64, .int .u8 x4_4), (63, .str a0), (62, .int .u8 x4_2), (61, .int .i64 y7_0), (60, .str a0), (44, .bool false), (44, .bool (decide (x2_2 = 92))), (48, .bool (decide (x2_2 = 92))), (47, .int .u8 x2_2), (46, .int .i64 y7_0), (45, .str a0), (0, .str a0), (4, .own 0 (y7_1).length 1), (5, .int .i64 y7_0), (6, .int .i64 (fW .i64 ((a0.length : Int) - 1))), (7, .int .i64 x1_2.1), (8, .int .i64 x1_2.2)]) (congrArg (fun z : Bool => ([(66, .bool z), (65, .bool z), (64, .int .u8 x4_4), (63, .str a0), (62, .int .u8 x4_2), (61, .int .i64 y7_0), (60, .str a0), (44, .bool false), (44, .bool (decide (x2_2 = 92))), (48, .bool (decide (x2_2 = 92))), (47, .int .u8 x2_2), (46, .int .i64 y7_0), (45, .str a0), (0, .str a0), (4, .own 0 (y7_1).length 1), (5, .int .i64 y7_0), (6, .int .i64 (fW .i64 ((a0.length : Int) - 1))), (7, .int .i64 x1_2.1), (8, .int .i64 x1_2.2)] : Env)) hb8) (opsD_run 4 (l' := (opsAt g43p18).toList.drop 11) (eE := E16) (H' := (mkH [⟨(y7_1).flatMap e3, 0, false⟩])) (hs := []) (by kernel_rfl) (.nil)))))))) (by kernel_rfl) (by kernel_rfl) (by kernel_rfl) ?_
       refine oK [0, 4, 5, 6, 7, 8, 59] (eE := [(0, .str a0), (4, .own 0 (y7_1).length 1), (5, .int .i64 y7_0), (6, .int .i64 (fW .i64 ((a0.length : Int) - 1))), (7, .int .i64 x1_2.1), (8, .int .i64 x1_2.2), (59, .bool true)]) (by kernel_rfl) ?_
       exact hj9 (true, y7_0, y7_1)
      ·let E14 : Env := [(61, .int .i64 y7_0), (60, .str a0), (44, .bool false), (44, .bool (decide (x2_2 = 92))), (48, .bool (decide (x2_2 = 92))), (47, .int .u8 x2_2), (46, .int .i64 y7_0), (45, .str a0), (0, .str a0), (4, .own 0 (y7_1).length 1), (5, .int .i64 y7_0), (6, .int .i64 (fW .i64 ((a0.length : Int) - 1))), (7, .int .i64 x1_2.1), (8, .int .i64 x1_2.2)]
       let E15 : Env := ((66, .bool (decide (x4_2 = x4_4))) :: (65, .bool (decide (x4_2 = x4_4))) :: (64, .int .u8 x4_4) :: (63, .str a0) :: (62, .int .u8 x4_2) :: E14)
       let E17 : Env := [(59, .bool (decide (x1_2.1 < 32))), (69, .bool (decide (x1_2.1 < 32))), (68, .bool (decide (x1_2.1 < 32))), (67, .int .i64 x1_2.1), (66, .bool false), (65, .bool false), (64, .int .u8 x4_4), (63, .str a0), (62, .int .u8 x4_2), (61, .int .i64 y7_0), (60, .str a0), (44, .bool false), (44, .bool (decide (x2_2 = 92))), (48, .bool (decide (x2_2 = 92))), (47, .int .u8 x2_2), (46, .int .i64 y7_0), (45, .str a0), (0, .str a0), (4, .own 0 (y7_1).length 1), (5, .int .i64 y7_0), (6, .int .i64 (fW .i64 ((a0.length : Int) - 1))), (7, .int .i64 x1_2.1), (8, .int .i64 x1_2.2)]
       refine ok_draw (p' := nav [0] g43p18) (eE := E17) (H' := (mkH [⟨(y7_1).flatMap e3, 0, false⟩])) (hs := []) [(0, 0, 0), (0, 0, 0), (3, 0, 0), (0, 0, 0), (8, 0, 0), (31, 0, 0), (63, 0, 0), (127, 0, 0), (255, 0, 0), (511, 0, 0), (1023, 0, 0)] (by kernel_rfl) (by kernel_rfl) (by kernel_rfl) (opsD_run 2 (l' := (opsAt g43p18).toList.drop 2) (eE := E14) (H' := (mkH [⟨(y7_1).flatMap e3, 0, false⟩])) (hs := []) (by kernel_rfl) (opsD_chk (l' := (opsAt g43p18).toList.drop 3) (eE := ((62, .int .u8 x4_2) :: E14)) (hs := []) (x := x4_2) (fun (x4_2 : Int) => (.int .u8 x4_2, (mkH [⟨(y7_1).flatMap e3, 0, false⟩]))) (idxH (by kernel_rfl)) hx4_2 (by kernel_rfl) (opsD_run 1 (l' := (opsAt g43p18).toList.drop 4) (eE := ((63, .str a0) :: (62, .int .u8 x4_2) :: E14)) (H' := (mkH [⟨(y7_1).flatMap e3, 0, false⟩])) (hs := []) (by kernel_rfl) (opsD_chk (l' := (opsAt g43p18).toList.drop 5) (eE := ((64, .int .u8 x4_4) :: (63, .str a0) :: (62, .int .u8 x4_2) :: E14)) (hs := []) (x := x4_4) (fun (x4_4 : Int) => (.int .u8 x4_4, (mkH [⟨(y7_1).flatMap e3, 0, false⟩]))) (idxH (by kernel_rfl)) hx4_4 (by kernel_rfl) (opsD_run 2 (l' := (opsAt g43p18).toList.drop 7) (eE := E15) (H' := (mkH [⟨(y7_1).flatMap e3, 0, false⟩])) (hs := []) (by kernel_rfl) (opsD_env (eE := [(66, .bool false), (65, .bool false), (64, .int .u8 x4_4), (63, .str a0), (62, .int .u8 x4_2), (61, .int .i64 y7_0), (60, .str a0), (44, .bool false), (44, .bool (decide (x2_2 = 92))), (48, .bool (decide (x2_2 = 92))), (47, .int .u8 x2_2), (46, .int .i64 y7_0), (45, .str a0), (0, .str a0), (4, .own 0 (y7_1).length 1), (5, .int .i64 y7_0), (6, .int .i64 (fW .i64 ((a0.length : Int) - 1))), (7, .int .i64 x1_2.1), (8, .int .i64 x1_2.2)]) (congrArg (fun z : Bool => ([(66, .bool z), (65, .bool z), (64, .int .u8 x4_4), (63, .str a0), (62, .int .u8 x4_2), (61, .int .i64 y7_0), (60, .str a0), (44, .bool false), (44, .bool (decide (x2_2 = 92))), (48, .bool (decide (x2_2 = 92))), (47, .int .u8 x2_2), (46, .int .i64 y7_0), (45, .str a0), (0, .str a0), (4, .own 0 (y7_1).length 1), (5, .int .i64 y7_0), (6, .int .i64 (fW .i64 ((a0.length : Int) - 1))), (7, .int .i64 x1_2.1), (8, .int .i64 x1_2.2)] : Env)) hb8) (opsD_run 4 (l' := (opsAt g43p18).toList.drop 11) (eE := E17) (H' := (mkH [⟨(y7_1).flatMap e3, 0, false⟩])) (hs := []) (by kernel_rfl) (.nil)))))))) (by kernel_rfl) (by kernel_rfl) (by kernel_rfl) ?_
       refine oK [0, 4, 5, 6, 7, 8, 59] (eE := [(0, .str a0), (4, .own 0 (y7_1).length 1), (5, .int .i64 y7_0), (6, .int .i64 (fW .i64 ((a0.length : Int) - 1))), (7, .int .i64 x1_2.1), (8, .int .i64 x1_2.2), (59, .bool (decide (x1_2.1 < 32)))]) (by kernel_rfl) ?_
       exact hj9 (decide (x1_2.1 < 32), y7_0, y7_1)
  ·refine oR 9 (p' := g43p13) (eE := ((79, .bool (!decide (y7_0 = fW .i64 ((a0.length : Int) - 1)))) :: (78, .int .i64 (fW .i64 ((a0.length : Int) - 1))) :: (77, .int .i64 y7_0) :: (37, .bool false) :: E3)) (H' := (mkH [⟨(y7_1).flatMap e3, 0, false⟩])) (by kernel_rfl) ?_
   refine oK [4, 79] (eE := [(4, .own 0 (y7_1).length 1), (79, .bool (!decide (y7_0 = fW .i64 ((a0.length : Int) - 1))))]) (by kernel_rfl) ?_
   refine oS 79 (b := !decide (y7_0 = fW .i64 ((a0.length : Int) - 1))) (by kernel_rfl) (fun hb => ?_) (fun hb => ?_)
   ·let E18 : Env := [(3, .int .i64 8), (2, .nils), (79, .bool true), (4, .own 0 (y7_1).length 1), (79, .bool (!decide (y7_0 = fW .i64 ((a0.length : Int) - 1))))]
    refine oR 7 (p' := .fin) (eE := E18) (H' := (mkH [⟨(y7_1).flatMap e3, 0, false⟩])) (by kernel_rfl) ?_
    exact oT (r := (([] : List Int), (8 : Int))) (xs := [.nils, .int .i64 8]) (v := .tuple [.vec 0 1 [], .int .i64 8]) (by kernel_rfl) (by kernel_rfl) (by kernel_rfl) (.tuple (.nil (.pures (by kernel_rfl))) (.pures (by kernel_rfl))) (by kernel_rfl)
   ·let E19 : Env := [(3, .int .i64 0), (2, .own 0 (y7_1).length 1), (80, .own 0 (y7_1).length 1), (79, .bool false), (4, .own 0 (y7_1).length 1), (79, .bool (!decide (y7_0 = fW .i64 ((a0.length : Int) - 1))))]
    refine oR 9 (p' := .fin) (eE := E19) (H' := (mkH [⟨(y7_1).flatMap e3, 0, false⟩])) (by kernel_rfl) ?_
    exact oT (r := (y7_1, (0 : Int))) (xs := [.own 0 (y7_1).length 1, .int .i64 0]) (v := .tuple [.vec (y7_1).length 1 ((y7_1).flatMap e3), .int .i64 0]) (by kernel_rfl) (by kernel_rfl) (by kernel_rfl) (.tuple (fz_own e3_len e3_pur rfl rfl (.pures (by kernel_rfl))) (.pures (by kernel_rfl))) (by kernel_rfl)
def g43 (k : Nat) (a0 : (List Nat)) : Option ((List Int) × Int) :=
 jn (fun (z6 : Bool) => if z6 then (some (([] : List Int), (8 : Int))) else (g43_l7 k a0 k 1 ([] : List Int))) (fun j6 => if (decide ((a0.length : Int) < 2)) then (j6 true) else ((nthS a0 0).bind fun x0_5 => if (!decide (x0_5 = 34)) then ((nthS a0 0).bind fun x0_9 => if (!decide (x0_9 = 39)) then (j6 true) else ((nthS a0 (fW .i64 ((a0.length : Int) - 1))).bind fun x0_18 => (nthS a0 0).bind fun x0_20 => j6 (!decide (x0_18 = x0_20)))) else ((nthS a0 (fW .i64 ((a0.length : Int) - 1))).bind fun x0_18 => (nthS a0 0).bind fun x0_20 => j6 (!decide (x0_18 = x0_20)))))
theorem g43_ok (k : Nat) (a0 : (List Nat)) (r : ((List Int) × Int)) (h : g43 k a0 = some r) : PureOk Try.prog 43 [.str a0] (.tuple [.vec (r.1).length 1 ((r.1).flatMap e3), .int .i64 r.2]) := by
 refine pure_of X43 (fun _ => rfl) Try.func43 (by decide +kernel) (by kernel_rfl) (t := g43 k a0) ?_ h
 unfold g43
 refine oE (eE := [(0, .str a0)]) (by kernel_rfl) ?_
 refine oR 7 (p' := g43p1) (eE := [(3, .int .i64 0), (2, .nils), (0, .str a0)]) (H' := (mkH [])) (by kernel_rfl) ?_
 refine oJ (f := fun (z6 : Bool) => if z6 then (some (([] : List Int), (8 : Int))) else (g43_l7 k a0 k 1 ([] : List Int))) g43p2 (fun (z6 : Bool) => [(0, .str a0), (31, .bool z6)]) (fun (z6 : Bool) => (mkH [])) (fun z6 => ?_) (fun j6 hj6 => ?_)
 ·refine oS 31 (b := z6) (by kernel_rfl) (fun hb => ?_) (fun hb => ?_)
  ·let E1 : Env := [(3, .int .i64 8), (2, .nils), (31, .bool true), (0, .str a0), (31, .bool z6)]
   refine oR 7 (p' := .fin) (eE := E1) (H' := (mkH [])) (by kernel_rfl) ?_
   exact oT (r := (([] : List Int), (8 : Int))) (xs := [.nils, .int .i64 8]) (v := .tuple [.vec 0 1 [], .int .i64 8]) (by kernel_rfl) (by kernel_rfl) (by kernel_rfl) (.tuple (.nil (.pures (by kernel_rfl))) (.pures (by kernel_rfl))) (by kernel_rfl)
  ·refine oR 5 (p' := (atN 1 (ctl1 g43p4))) (eE := [(4, .nils), (31, .bool false), (0, .str a0), (31, .bool z6)]) (H' := (mkH [])) (by kernel_rfl) ?_
   refine ok_own [] 4 1 rfl (by kernel_rfl) ?_
   refine oE (eE := [(4, .own 0 (([] : List Int)).length 1), (4, .nils), (31, .bool false), (0, .str a0), (31, .bool z6)]) (by kernel_rfl) ?_
   refine ok_heap (H' := (mkH [⟨(([] : List Int)).flatMap e3, 0, false⟩])) (by kernel_rfl) ?_
   let E2 : Env := [(6, .int .i64 (fW .i64 ((a0.length : Int) - 1))), (5, .int .i64 1), (34, .int .i64 (fW .i64 ((a0.length : Int) - 1))), (33, .int .i64 (a0.length : Int)), (32, .str a0), (4, .own 0 (([] : List Int)).length 1), (4, .nils), (31, .bool false), (0, .str a0), (31, .bool z6)]
   refine oR 12 (p' := g43p7) (eE := E2) (H' := (mkH [⟨(([] : List Int)).flatMap e3, 0, false⟩])) (by kernel_rfl) ?_
   refine oK [0, 4, 5, 6] (eE := [(0, .str a0), (4, .own 0 (([] : List Int)).length 1), (5, .int .i64 1), (6, .int .i64 (fW .i64 ((a0.length : Int) - 1)))]) (by kernel_rfl) ?_
   exact (g43_l7_ok k a0 k) 1 ([] : List Int)
 ·refine ok_if (fun hb2 => ?_) (fun hb2 => ?_)
  ·let E20 : Env := [(12, .bool (decide ((a0.length : Int) < 2))), (11, .bool (decide ((a0.length : Int) < 2))), (10, .int .i64 (a0.length : Int)), (9, .str a0), (3, .int .i64 0), (2, .nils), (0, .str a0)]
   let E21 : Env := [(31, .bool true), (30, .tuple []), (29, .tuple []), (28, .tuple []), (27, .tuple []), (26, .tuple []), (25, .tuple []), (24, .tuple []), (23, .tuple []), (22, .bool true), (21, .bool true), (20, .tuple []), (19, .tuple []), (18, .tuple []), (17, .tuple []), (16, .tuple []), (15, .tuple []), (14, .tuple []), (13, .tuple []), (12, .bool true), (11, .bool true), (10, .int .i64 (a0.length : Int)), (9, .str a0), (3, .int .i64 0), (2, .nils), (0, .str a0)]
   refine ok_draw (p' := nav [0] g43p1) (eE := E21) (H' := (mkH [])) (hs := []) [(0, 0, 0), (1, 0, 0), (3, 0, 0), (7, 0, 0), (15, 0, 0), (31, 0, 0), (63, 0, 0), (127, 0, 0), (255, 0, 0), (511, 0, 0), (1023, 0, 0), (2047, 0, 0), (4095, 0, 0), (8191, 0, 0), (16383, 0, 0), (16383, 0, 0), (49151, 0, 0), (114687, 0, 0), (262143, 0, 0), (16383, 0, 0), (540671, 0, 0), (2097151, 0, 0), (4194303, 0, 0)] (by kernel_rfl) (by kernel_rfl) (by kernel_rfl) (opsD_run 4 (l' := (opsAt g43p1).toList.drop 4) (eE := E20) (H' := (mkH [])) (hs := []) (by kernel_rfl) (opsD_env (eE := [(12, .bool true), (11, .bool true), (10, .int .i64 (a0.length : Int)), (9, .str a0), (3, .int .i64 0), (2, .nils), (0, .str a0)]) (congrArg (fun z : Bool => ([(12, .bool z), (11, .bool z), (10, .int .i64 (a0.length : Int)), (9, .str a0), (3, .int .i64 0), (2, .nils), (0, .str a0)] : Env)) hb2) (opsD_run 19 (l' := (opsAt g43p1).toList.drop 23) (eE := E21) (H' := (mkH [])) (hs := []) (by kernel_rfl) (.nil)))) (by kernel_rfl) (by kernel_rfl) (by kernel_rfl) ?_
   refine oK [0, 31] (eE := [(0, .str a0), (31, .bool true)]) (by kernel_rfl) ?_
   exact hj6 true
  ·refine ok_bind (fun x0_5 hx0_5 => ?_)
   refine ok_if (fun hb3 => ?_) (fun hb3 => ?_)
   ·refine ok_bind (fun x0_9 hx0_9 => ?_)
    refine ok_if (fun hb4 => ?_) (fun hb4 => ?_)
    ·let E20 : Env := [(12, .bool (decide ((a0.length : Int) < 2))), (11, .bool (decide ((a0.length : Int) < 2))), (10, .int .i64 (a0.length : Int)), (9, .str a0), (3, .int .i64 0), (2, .nils), (0, .str a0)]
     let E22 : Env := [(13, .str a0), (12, .bool false), (11, .bool false), (10, .int .i64 (a0.length : Int)), (9, .str a0), (3, .int .i64 0), (2, .nils), (0, .str a0)]
     let E23 : Env := ((18, .int .u8 x0_9) :: (17, .str a0) :: (16, .bool true) :: (15, .bool true) :: (14, .int .u8 x0_5) :: E22)
     let E24 : Env := ((31, .bool true) :: (30, .tuple []) :: (29, .tuple []) :: (28, .tuple []) :: (27, .tuple []) :: (26, .tuple []) :: (25, .tuple []) :: (24, .tuple []) :: (23, .tuple []) :: (22, .bool true) :: (21, .bool true) :: (20, .bool true) :: (19, .bool true) :: E23)
     refine ok_draw (p' := nav [0] g43p1) (eE := E24) (H' := (mkH [])) (hs := []) [(0, 0, 0), (1, 0, 0), (3, 0, 0), (7, 0, 0), (15, 0, 0), (31, 0, 0), (63, 0, 0), (127, 0, 0), (255, 0, 0), (511, 0, 0), (1023, 0, 0), (2047, 0, 0), (4095, 0, 0), (8191, 0, 0), (16383, 0, 0), (16383, 0, 0), (49151, 0, 0), (114687, 0, 0), (262143, 0, 0), (16383, 0, 0), (540671, 0, 0), (2097151, 0, 0), (4194303, 0, 0)] (by kernel_rfl) (by kernel_rfl) (by kernel_rfl) (opsD_run 4 (l' := (opsAt g43p1).toList.drop 4) (eE := E20) (H' := (mkH [])) (hs := []) (by kernel_rfl) (opsD_env (eE := [(12, .bool false), (11, .bool false), (10, .int .i64 (a0.length : Int)), (9, .str a0), (3, .int .i64 0), (2, .nils), (0, .str a0)]) (congrArg (fun z : Bool => ([(12, .bool z), (11, .bool z), (10, .int .i64 (a0.length : Int)), (9, .str a0), (3, .int .i64 0), (2, .nils), (0, .str a0)] : Env)) hb2) (opsD_run 1 (l' := (opsAt g43p1).toList.drop 5) (eE := E22) (H' := (mkH [])) (hs := []) (by kernel_rfl) (opsD_chk (l' := (opsAt g43p1).toList.drop 6) (eE := ((14, .int .u8 x0_5) :: E22)) (hs := []) (x := x0_5) (fun (x0_5 : Int) => (.int .u8 x0_5, (mkH []))) (idxH (by kernel_rfl)) hx0_5 (by kernel_rfl) (opsD_run 2 (l' := (opsAt g43p1).toList.drop 8) (eE := ((16, .bool (!decide (x0_5 = 34))) :: (15, .bool (!decide (x0_5 = 34))) :: (14, .int .u8 x0_5) :: E22)) (H' := (mkH [])) (hs := []) (by kernel_rfl) (opsD_env (eE := ((16, .bool true) :: (15, .bool true) :: (14, .int .u8 x0_5) :: E22)) (congrArg (fun z : Bool => (((16, .bool z) :: (15, .bool z) :: (14, .int .u8 x0_5) :: E22) : Env)) hb3) (opsD_run 1 (l' := (opsAt g43p1).toList.drop 9) (eE := ((17, .str a0) :: (16, .bool true) :: (15, .bool true) :: (14, .int .u8 x0_5) :: E22)) (H' := (mkH [])) (hs := []) (by kernel_rfl) (opsD_chk (l' := (opsAt g43p1).toList.drop 10) (eE := E23) (hs := []) (x := x0_9) (fun (x0_9 : Int) => (.int .u8 x0_9, (mkH []))) (idxH (by kernel_rfl)) hx0_9 (by kernel_rfl) (opsD_run 4 (l' := (opsAt g43p1).toList.drop 14) (eE := ((22, .bool (!decide (x0_9 = 39))) :: (21, .bool (!decide (x0_9 = 39))) :: (20, .bool (!decide (x0_9 = 39))) :: (19, .bool (!decide (x0_9 = 39))) :: E23)) (H' := (mkH [])) (hs := []) (by kernel_rfl) (opsD_env (eE := ((22, .bool true) :: (21, .bool true) :: (20, .bool true) :: (19, .bool true) :: E23)) (congrArg (fun z : Bool => (((22, .bool z) :: (21, .bool z) :: (20, .bool z) :: (19, .bool z) :: E23) : Env)) hb4) (opsD_run 9 (l' := (opsAt g43p1).toList.drop 23) (eE := E24) (H' := (mkH [])) (hs := []) (by kernel_rfl) (.nil)))))))))))) (by kernel_rfl) (by kernel_rfl) (by kernel_rfl) ?_
     refine oK [0, 31] (eE := [(0, .str a0), (31, .bool true)]) (by kernel_rfl) ?_
     exact hj6 true
    ·refine ok_bind (fun x0_18 hx0_18 => ?_)
     refine ok_bind (fun x0_20 hx0_20 => ?_)
     let E20 : Env := [(12, .bool (decide ((a0.length : Int) < 2))), (11, .bool (decide ((a0.length : Int) < 2))), (10, .int .i64 (a0.length : Int)), (9, .str a0), (3, .int .i64 0), (2, .nils), (0, .str a0)]
     let E22 : Env := [(13, .str a0), (12, .bool false), (11, .bool false), (10, .int .i64 (a0.length : Int)), (9, .str a0), (3, .int .i64 0), (2, .nils), (0, .str a0)]
     let E23 : Env := ((18, .int .u8 x0_9) :: (17, .str a0) :: (16, .bool true) :: (15, .bool true) :: (14, .int .u8 x0_5) :: E22)
     let E25 : Env := ((26, .int .i64 (fW .i64 ((a0.length : Int) - 1))) :: (25, .int .i64 (a0.length : Int)) :: (24, .str a0) :: (23, .str a0) :: (22, .bool false) :: (21, .bool false) :: (20, .bool false) :: (19, .bool false) :: E23)
     let E26 : Env := ((31, .bool (!decide (x0_18 = x0_20))) :: (30, .bool (!decide (x0_18 = x0_20))) :: (29, .int .u8 x0_20) :: (28, .str a0) :: (27, .int .u8 x0_18) :: E25)
     refine ok_draw (p' := nav [0] g43p1) (eE := E26) (H' := (mkH [])) (hs := []) [(0, 0, 0), (1, 0, 0), (3, 0, 0), (7, 0, 0), (15, 0, 0), (31, 0, 0), (63, 0, 0), (127, 0, 0), (255, 0, 0), (511, 0, 0), (1023, 0, 0), (2047, 0, 0), (4095, 0, 0), (8191, 0, 0), (16383, 0, 0), (16383, 0, 0), (49151, 0, 0), (114687, 0, 0), (262143, 0, 0), (16383, 0, 0), (540671, 0, 0), (2097151, 0, 0), (4194303, 0, 0)] (by kernel_rfl) (by kernel_rfl) (by kernel_rfl) (opsD_run 4 (l' := (opsAt g43p1).toList.drop 4) (eE := E20) (H' := (mkH [])) (hs := []) (by kernel_rfl) (opsD_env (eE := [(12, .bool false), (11, .bool false), (10, .int .i64 (a0.length : Int)), (9, .str a0), (3, .int .i64 0), (2, .nils), (0, .str a0)]) (congrArg (fun z : Bool => ([(12, .bool z), (11, .bool z), (10, .int .i64 (a0.length : Int)), (9, .str a0), (3, .int .i64 0), (2, .nils), (0, .str a0)] : Env)) hb2) (opsD_run 1 (l' := (opsAt g43p1).toList.drop 5) (eE := E22) (H' := (mkH [])) (hs := []) (by kernel_rfl) (opsD_chk (l' := (opsAt g43p1).toList.drop 6) (eE := ((14, .int .u8 x0_5) :: E22)) (hs := []) (x := x0_5) (fun (x0_5 : Int) => (.int .u8 x0_5, (mkH []))) (idxH (by kernel_rfl)) hx0_5 (by kernel_rfl) (opsD_run 2 (l' := (opsAt g43p1).toList.drop 8) (eE := ((16, .bool (!decide (x0_5 = 34))) :: (15, .bool (!decide (x0_5 = 34))) :: (14, .int .u8 x0_5) :: E22)) (H' := (mkH [])) (hs := []) (by kernel_rfl) (opsD_env (eE := ((16, .bool true) :: (15, .bool true) :: (14, .int .u8 x0_5) :: E22)) (congrArg (fun z : Bool => (((16, .bool z) :: (15, .bool z) :: (14, .int .u8 x0_5) :: E22) : Env)) hb3) (opsD_run 1 (l' := (opsAt g43p1).toList.drop 9) (eE := ((17, .str a0) :: (16, .bool true) :: (15, .bool true) :: (14, .int .u8 x0_5) :: E22)) (H' := (mkH [])) (hs := []) (by kernel_rfl) (opsD_chk (l' := (opsAt g43p1).toList.drop 10) (eE := E23) (hs := []) (x := x0_9) (fun (x0_9 : Int) => (.int .u8 x0_9, (mkH []))) (idxH (by kernel_rfl)) hx0_9 (by kernel_rfl) (opsD_run 4 (l' := (opsAt g43p1).toList.drop 14) (eE := ((22, .bool (!decide (x0_9 = 39))) :: (21, .bool (!decide (x0_9 = 39))) :: (20, .bool (!decide (x0_9 = 39))) :: (19, .bool (!decide (x0_9 = 39))) :: E23)) (H' := (mkH [])) (hs := []) (by kernel_rfl) (opsD_env (eE := ((22, .bool false) :: (21, .bool false) :: (20, .bool false) :: (19, .bool false) :: E23)) (congrArg (fun z : Bool => (((22, .bool z) :: (21, .bool z) :: (20, .bool z) :: (19, .bool z) :: E23) : Env)) hb4) (opsD_run 4 (l' := (opsAt g43p1).toList.drop 18) (eE := E25) (H' := (mkH [])) (hs := []) (by kernel_rfl) (opsD_chk (l' := (opsAt g43p1).toList.drop 19) (eE := ((27, .int .u8 x0_18) :: E25)) (hs := []) (x := x0_18) (fun (x0_18 : Int) => (.int .u8 x0_18, (mkH []))) (idxH (by kernel_rfl)) hx0_18 (by kernel_rfl) (opsD_run 1 (l' := (opsAt g43p1).toList.drop 20) (eE := ((28, .str a0) :: (27, .int .u8 x0_18) :: E25)) (H' := (mkH [])) (hs := []) (by kernel_rfl) (opsD_chk (l' := (opsAt g43p1).toList.drop 21) (eE := ((29, .int .u8 x0_20) :: (28, .str a0) :: (27, .int .u8 x0_18) :: E25)) (hs := []) (x := x0_20) (fun (x0_20 : Int) => (.int .u8 x0_20, (mkH []))) (idxH (by kernel_rfl)) hx0_20 (by kernel_rfl) (opsD_run 2 (l' := (opsAt g43p1).toList.drop 23) (eE := E26) (H' := (mkH [])) (hs := []) (by kernel_rfl) (.nil)))))))))))))))) (by kernel_rfl) (by kernel_rfl) (by kernel_rfl) ?_
     refine oK [0, 31] (eE := [(0, .str a0), (31, .bool (!decide (x0_18 = x0_20)))]) (by kernel_rfl) ?_
     exact hj6 (!decide (x0_18 = x0_20))
   ·refine ok_bind (fun x0_18 hx0_18 => ?_)
    refine ok_bind (fun x0_20 hx0_20 => ?_)
    let E20 : Env := [(12, .bool (decide ((a0.length : Int) < 2))), (11, .bool (decide ((a0.length : Int) < 2))), (10, .int .i64 (a0.length : Int)), (9, .str a0), (3, .int .i64 0), (2, .nils), (0, .str a0)]
    let E22 : Env := [(13, .str a0), (12, .bool false), (11, .bool false), (10, .int .i64 (a0.length : Int)), (9, .str a0), (3, .int .i64 0), (2, .nils), (0, .str a0)]
    let E27 : Env := ((26, .int .i64 (fW .i64 ((a0.length : Int) - 1))) :: (25, .int .i64 (a0.length : Int)) :: (24, .str a0) :: (23, .str a0) :: (22, .bool false) :: (21, .bool false) :: (20, .bool false) :: (19, .tuple []) :: (18, .tuple []) :: (17, .tuple []) :: (16, .bool false) :: (15, .bool false) :: (14, .int .u8 x0_5) :: E22)
    let E28 : Env := ((31, .bool (!decide (x0_18 = x0_20))) :: (30, .bool (!decide (x0_18 = x0_20))) :: (29, .int .u8 x0_20) :: (28, .str a0) :: (27, .int .u8 x0_18) :: E27)
    refine ok_draw (p' := nav [0] g43p1) (eE := E28) (H' := (mkH [])) (hs := []) [(0, 0, 0), (1, 0, 0), (3, 0, 0), (7, 0, 0), (15, 0, 0), (31, 0, 0), (63, 0, 0), (127, 0, 0), (255, 0, 0), (511, 0, 0), (1023, 0, 0), (2047, 0, 0), (4095, 0, 0), (8191, 0, 0), (16383, 0, 0), (16383, 0, 0), (49151, 0, 0), (114687, 0, 0), (262143, 0, 0), (16383, 0, 0), (540671, 0, 0), (2097151, 0, 0), (4194303, 0, 0)] (by kernel_rfl) (by kernel_rfl) (by kernel_rfl) (opsD_run 4 (l' := (opsAt g43p1).toList.drop 4) (eE := E20) (H' := (mkH [])) (hs := []) (by kernel_rfl) (opsD_env (eE := [(12, .bool false), (11, .bool false), (10, .int .i64 (a0.length : Int)), (9, .str a0), (3, .int .i64 0), (2, .nils), (0, .str a0)]) (congrArg (fun z : Bool => ([(12, .bool z), (11, .bool z), (10, .int .i64 (a0.length : Int)), (9, .str a0), (3, .int .i64 0), (2, .nils), (0, .str a0)] : Env)) hb2) (opsD_run 1 (l' := (opsAt g43p1).toList.drop 5) (eE := E22) (H' := (mkH [])) (hs := []) (by kernel_rfl) (opsD_chk (l' := (opsAt g43p1).toList.drop 6) (eE := ((14, .int .u8 x0_5) :: E22)) (hs := []) (x := x0_5) (fun (x0_5 : Int) => (.int .u8 x0_5, (mkH []))) (idxH (by kernel_rfl)) hx0_5 (by kernel_rfl) (opsD_run 2 (l' := (opsAt g43p1).toList.drop 8) (eE := ((16, .bool (!decide (x0_5 = 34))) :: (15, .bool (!decide (x0_5 = 34))) :: (14, .int .u8 x0_5) :: E22)) (H' := (mkH [])) (hs := []) (by kernel_rfl) (opsD_env (eE := ((16, .bool false) :: (15, .bool false) :: (14, .int .u8 x0_5) :: E22)) (congrArg (fun z : Bool => (((16, .bool z) :: (15, .bool z) :: (14, .int .u8 x0_5) :: E22) : Env)) hb3) (opsD_run 10 (l' := (opsAt g43p1).toList.drop 18) (eE := E27) (H' := (mkH [])) (hs := []) (by kernel_rfl) (opsD_chk (l' := (opsAt g43p1).toList.drop 19) (eE := ((27, .int .u8 x0_18) :: E27)) (hs := []) (x := x0_18) (fun (x0_18 : Int) => (.int .u8 x0_18, (mkH []))) (idxH (by kernel_rfl)) hx0_18 (by kernel_rfl) (opsD_run 1 (l' := (opsAt g43p1).toList.drop 20) (eE := ((28, .str a0) :: (27, .int .u8 x0_18) :: E27)) (H' := (mkH [])) (hs := []) (by kernel_rfl) (opsD_chk (l' := (opsAt g43p1).toList.drop 21) (eE := ((29, .int .u8 x0_20) :: (28, .str a0) :: (27, .int .u8 x0_18) :: E27)) (hs := []) (x := x0_20) (fun (x0_20 : Int) => (.int .u8 x0_20, (mkH []))) (idxH (by kernel_rfl)) hx0_20 (by kernel_rfl) (opsD_run 2 (l' := (opsAt g43p1).toList.drop 23) (eE := E28) (H' := (mkH [])) (hs := []) (by kernel_rfl) (.nil)))))))))))) (by kernel_rfl) (by kernel_rfl) (by kernel_rfl) ?_
    refine oK [0, 31] (eE := [(0, .str a0), (31, .bool (!decide (x0_18 = x0_20)))]) (by kernel_rfl) ?_
    exact hj6 (!decide (x0_18 = x0_20))
end
end Go.Proofs.Ytabhkocokojddaa.Am
set_option maxRecDepth 100000
set_option linter.unusedVariables false
namespace Go.Proofs.Ytabhkocokojddaa.Am
noncomputable section
open Go
def g44_l6 (k : Nat)  (a0 : (List Nat)) (n : Nat) : Int → (List Int) → Option ((List Int) × Int) :=
 Nat.rec (motive := fun _ => Int → (List Int) → Option ((List Int) × Int)) (fun _ _ => none) (fun _ ih => fun (y6_0 : Int) (y6_1 : (List Int)) => if (decide (y6_0 < fW .i64 ((a0.length : Int) - 1))) then ((g72 k a0 y6_0).bind fun x1_2 => jn (fun (z7 : Int × Int × Int × (List Int)) => if (decide (z7.1 < 0)) then (some (([] : List Int), (8 : Int))) else ((appS 8 z7.2.2.2 ([z7.1] : List Int)).bind fun x4_3 => ih (fW .i64 (z7.2.2.1 + z7.2.1)) x4_3)) (fun j7 => if (decide (x1_2.1 = 92)) then ((subL a0 none (some (fW .i64 ((a0.length : Int) - 1)))).bind fun x2_4 => (g42 k x2_4 y6_0).bind fun x2_6 => j7 (x2_6.1, x2_6.2, y6_0, y6_1)) else ((nthS a0 0).bind fun x3_2 => jn (fun (z8 : Bool × Int × (List Int)) => if z8.1 then (j7 ((-1), x1_2.2, z8.2.1, z8.2.2)) else (j7 (x1_2.1, x1_2.2, z8.2.1, z8.2.2))) (fun j8 => if (decide (x1_2.1 = fW .i64 x3_2)) then (j8 (true, y6_0, y6_1)) else (j8 (decide (x1_2.1 < 32), y6_0, y6_1)))))) else (some (y6_1, (0 : Int)))) n
theorem g44_l6_s (k : Nat)  (a0 : (List Nat)) (n : Nat) (y6_0 : Int) (y6_1 : (List Int)) : g44_l6 k a0 (n + 1) y6_0 y6_1 = (if (decide (y6_0 < fW .i64 ((a0.length : Int) - 1))) then ((g72 k a0 y6_0).bind fun x1_2 => jn (fun (z7 : Int × Int × Int × (List Int)) => if (decide (z7.1 < 0)) then (some (([] : List Int), (8 : Int))) else ((appS 8 z7.2.2.2 ([z7.1] : List Int)).bind fun x4_3 => (g44_l6 k a0 n) (fW .i64 (z7.2.2.1 + z7.2.1)) x4_3)) (fun j7 => if (decide (x1_2.1 = 92)) then ((subL a0 none (some (fW .i64 ((a0.length : Int) - 1)))).bind fun x2_4 => (g42 k x2_4 y6_0).bind fun x2_6 => j7 (x2_6.1, x2_6.2, y6_0, y6_1)) else ((nthS a0 0).bind fun x3_2 => jn (fun (z8 : Bool × Int × (List Int)) => if z8.1 then (j7 ((-1), x1_2.2, z8.2.1, z8.2.2)) else (j7 (x1_2.1, x1_2.2, z8.2.1, z8.2.2))) (fun j8 => if (decide (x1_2.1 = fW .i64 x3_2)) then (j8 (true, y6_0, y6_1)) else (j8 (decide (x1_2.1 < 32), y6_0, y6_1)))))) else (some (y6_1, (0 : Int)))) := rfl
end
end Go.Proofs.Ytabhkocokojddaa.Am
set_option maxRecDepth 100000
set_option linter.unusedVariables false
set_option linter.unusedSimpArgs false
namespace Go.Proofs.Ytabhkocokojddaa.Am
open Go
def quV (q e : Nat) (s : List Nat) : Nat → Nat → Option (List Int)
 | 0, _ => some []
 | f + 1, a => if e ≤ a then some [] else match s.drop a with
  | [] => some []
  | c :: r => if c = 92 then (if (escN ((s.take e).drop a)).2 = 0 then none else (quV q e s f (a + (escN ((s.take e).drop a)).2.toNat)).map fun l => (escN ((s.take e).drop a)).1 :: l)
   else if c = q ∨ (dec (c :: r)).1 < 32 then none else (quV q e s f (a + (dec (c :: r)).2.toNat)).map fun l => (dec (c :: r)).1 :: l
theorem dec_stop {c : Nat} {r : List Nat} {n b : Nat} {w : List Nat} (h0 : ¬ (dec (c :: r)).1 < 0) (h1 : (dec (c :: r)).2 = (n : Int)) {i : Nat} (hi : (c :: r).drop i = b :: w) (h2 : 1 ≤ i) (hb : b < 128) : n ≤ i := by
 rcases Nat.lt_or_ge i n with hlt | hge
 ·exfalso
  simp only [dec] at h0 h1
  by_cases hl : (leadN c).1 = 0
  ·rw [if_pos hl] at h0; exact h0 (show ((-1 : Int), (1 : Int)).1 < 0 by decide)
  ·rw [if_neg hl] at h0 h1
   cases hy : moreN ((leadN c).1 - 1) (leadN c).2 r with
   | none => rw [hy] at h0; exact h0 (show ((-1 : Int), (1 : Int)).1 < 0 by decide)
   | some y =>
    rw [hy] at h0 h1
    simp only [fitN] at h0 h1
    split at h0
    ·rename_i hf
     rw [if_pos hf] at h1
     have h1 : ((leadN c).1 : Int) = (n : Int) := h1
     obtain ⟨i, rfl⟩ : ∃ j, i = j + 1 := ⟨i - 1, by omega⟩
     rw [List.drop_succ_cons] at hi
     obtain ⟨b', hb', hb2⟩ := moreN_cont' _ _ _ _ hy i (by omega)
     have := List.getElem?_drop (xs := r) (i := i) (j := 0)
     rw [hi, Nat.add_zero, hb'] at this
     simp at this
     omega
    ·exact h0 (show ((-1 : Int), (1 : Int)).1 < 0 by decide)
 ·exact hge
theorem quo_l {k : Nat} {s : List Nat} (hs : By s) (hl : s.length ≤ 100000) (hk : 10 ≤ k) {q e : Nat} (he : e + 1 = s.length) (hq : q < 128) (hq92 : q ≠ 92) (n0 : nthS s 0 = some (q : Int)) (hend : s.drop e = [q]) : ∀ (d f a : Nat) (acc : List Int), e < a + d → d < f → a ≤ e → acc.length ≤ a →
 g43_l7 k s f (a : Int) acc = some (match quV q e s d a with | some l => (acc ++ l, 0) | none => ([], 8)) ∧
 g44_l6 k s f (a : Int) acc = some (match quV q e s d a with | some l => (acc ++ l, 0) | none => ([], 8))
 | 0, f, a, acc, h, hf, ha, hacc => by omega
 | d + 1, f, a, acc, h, hf, ha, hacc => by
  have hlz : Sz s := by unfold Sz; omega
  obtain ⟨f, rfl⟩ : ∃ f', f = f' + 1 := ⟨f - 1, by omega⟩
  rw [g43_l7_s, g44_l6_s]
  have ee := fun _ : Unit => (show fW .i64 ((s.length : Int) - 1) = (e : Int) by rw [fwI (by omega) (by omega)]; omega)
  rw [ee ()]
  rcases Nat.lt_or_ge a e with hlt | hge
  ·obtain ⟨c, r, hc, hr, hm, hrl⟩ := dcons (s := s) (i := a) (by omega)
   have nc := nthX (x := (a : Int)) rfl hc
   have nx := next_at (k := k) (by omega) hs hlz a
   have rnx := rnext_at (k := k) (by omega) hs hlz a
   rw [hc] at nx rnx
   have qv : quV q e s (d + 1) a = if c = 92 then (if (escN ((s.take e).drop a)).2 = 0 then none else (quV q e s d (a + (escN ((s.take e).drop a)).2.toNat)).map fun l => (escN ((s.take e).drop a)).1 :: l)
    else if c = q ∨ (dec (c :: r)).1 < 32 then none else (quV q e s d (a + (dec (c :: r)).2.toNat)).map fun l => (dec (c :: r)).1 :: l := by
    simp only [quV]
    rw [if_neg (by omega), hc]
   rw [qv]
   clear qv
   have sb := subTo (s := s) (x := (e : Int)) (i := e) rfl (by omega)
   have tl : (s.take e).length = e := by rw [List.length_take]; omega
   have step : ∀ (v : Int) (m : Nat), 1 ≤ m → a + m ≤ e →
    ((appS 8 acc [v]).bind (fun x5_3 => g43_l7 k s f (fW .i64 ((a : Int) + (m : Int))) x5_3) = some (match (quV q e s d (a + m)).map (fun l => v :: l) with | some l => (acc ++ l, 0) | none => ([], 8))) ∧
    ((appS 8 acc [v]).bind (fun x5_3 => g44_l6 k s f (fW .i64 ((a : Int) + (m : Int))) x5_3) = some (match (quV q e s d (a + m)).map (fun l => v :: l) with | some l => (acc ++ l, 0) | none => ([], 8))) := by
    intro v m hm1 hm2
    have ap : appS 8 acc [v] = some (acc ++ [v]) := by
     unfold appS; rw [if_pos (by simp only [List.length_cons, List.length_nil]; omega)]
    obtain ⟨i1, i2⟩ := quo_l hs hl hk he hq hq92 n0 hend d f (a + m) (acc ++ [v]) (by omega) (by omega) hm2 (by rw [List.length_append]; simp only [List.length_cons, List.length_nil]; omega)
    rw [ap, fw_a (by omega) (by omega)]
    constructor
    ·refine (show g43_l7 k s f ((a + m : Nat) : Int) (acc ++ [v]) = _ from i1).trans ?_
     cases quV q e s d (a + m) with
     | none => rfl
     | some l => simp only [Option.map_some, List.append_assoc, List.singleton_append]
    ·refine (show g44_l6 k s f ((a + m : Nat) : Int) (acc ++ [v]) = _ from i2).trans ?_
     cases quV q e s d (a + m) with
     | none => rfl
     | some l => simp only [Option.map_some, List.append_assoc, List.singleton_append]
   by_cases h92 : c = 92
   ·rw [if_pos h92]
    have ea := escape_at (k := k) hk (s := s.take e) (hs.take e) (by unfold Sz; omega) a
    have ra := rescape_at (k := k) hk (s := s.take e) (hs.take e) (by unfold Sz; omega) a
    have d92 : (dec (c :: r)).1 = 92 := by rw [h92, dec_ascii r (by decide)]; rfl
    rcases escN_cases ((s.take e).drop a) with h0 | ⟨v, n, h0, h3, h4⟩
    ·rw [h0] at ea ra ⊢
     constructor
     ·refine iT (dT (by omega)) ?_
      refine bS (by (try simp (disch := omega) only [fwI]); exact nx) ?_
      refine bS (by (try simp (disch := omega) only [fwI]); exact nc) ?_
      refine jC fun j => ?_
      refine iT (dT (by omega)) ?_
      refine bS (by (try simp (disch := omega) only [fwI]); exact sb) ?_
      refine bS (by (try simp (disch := omega) only [fwI]); exact ea) ?_
      exact iT rfl rfl
     ·refine iT (dT (by omega)) ?_
      refine bS (by (try simp (disch := omega) only [fwI]); exact rnx) ?_
      refine (jS (v := ((-1), 0, (a : Int), acc)) (fun j => ?_)).trans ?_
      ·refine iT (dT d92) ?_
       refine bS (by (try simp (disch := omega) only [fwI]); exact sb) ?_
       refine bS (by (try simp (disch := omega) only [fwI]); exact ra) ?_
       rfl
      ·exact iT rfl rfl
    ·rw [h0] at ea ra ⊢
     rw [List.length_drop, tl] at h4
     rw [if_neg (show ¬ ((n : Nat) : Int) = 0 by omega)]
     simp only [Int.toNat_natCast]
     obtain ⟨s1, s2⟩ := step (v : Int) n (by omega) (by omega)
     constructor
     ·refine iT (dT (by omega)) ?_
      refine bS (by (try simp (disch := omega) only [fwI]); exact nx) ?_
      refine bS (by (try simp (disch := omega) only [fwI]); exact nc) ?_
      refine (jS (v := ((n : Int), (v : Int), (a : Int), acc)) (fun j => ?_)).trans ?_
      ·refine iT (dT (by omega)) ?_
       refine bS (by (try simp (disch := omega) only [fwI]); exact sb) ?_
       refine bS (by (try simp (disch := omega) only [fwI]); exact ea) ?_
       exact iF (dF (show ¬ ((n : Nat) : Int) = 0 by omega)) rfl
      ·exact s1
     ·refine iT (dT (by omega)) ?_
      refine bS (by (try simp (disch := omega) only [fwI]); exact rnx) ?_
      refine (jS (v := ((v : Int), (n : Int), (a : Int), acc)) (fun j => ?_)).trans ?_
      ·refine iT (dT d92) ?_
       refine bS (by (try simp (disch := omega) only [fwI]); exact sb) ?_
       refine bS (by (try simp (disch := omega) only [fwI]); exact ra) ?_
       rfl
      ·refine iF (dF (show ¬ ((v : Nat) : Int) < 0 by omega)) ?_
       exact s2
   ·rw [if_neg h92]
    have d92 : ¬ (dec (c :: r)).1 = 92 := by
     by_cases h3 : c < 128
     ·rw [dec_ascii r h3]; show ¬ (c : Int) = 92; omega
     ·rcases dec_big r h3 with h4 | h4 <;> omega
    have c256 := hs c hm
    have dq : (dec (c :: r)).1 = (q : Int) ↔ c = q := by
     by_cases h3 : c < 128
     ·rw [dec_ascii r h3]
      show (c : Int) = q ↔ _
      omega
     ·constructor
      ·intro h; rcases dec_big r h3 with h4 | h4 <;> omega
      ·intro h; omega
    by_cases hbad : c = q ∨ (dec (c :: r)).1 < 32
    ·rw [if_pos hbad]
     constructor
     ·refine iT (dT (by omega)) ?_
      refine bS (by (try simp (disch := omega) only [fwI]); exact nx) ?_
      refine bS (by (try simp (disch := omega) only [fwI]); exact nc) ?_
      refine jC fun j => ?_
      refine iF (dF (by omega)) ?_
      refine (jS (v := (true, (a : Int), acc)) (fun j => ?_)).trans ?_
      ·refine bS (by (try simp (disch := omega) only [fwI]); exact nc) ?_
       refine bS (by (try simp (disch := omega) only [fwI]); exact n0) ?_
       by_cases h : c = q
       ·exact iT (dT (by omega)) rfl
       ·refine iF (dF (by omega)) ?_
        rw [dT (hbad.resolve_left h)]
      ·rfl
     ·refine iT (dT (by omega)) ?_
      refine bS (by (try simp (disch := omega) only [fwI]); exact rnx) ?_
      refine (jS (v := ((-1), (dec (c :: r)).2, (a : Int), acc)) (fun j => ?_)).trans ?_
      ·refine iF (dF d92) ?_
       refine bS (by (try simp (disch := omega) only [fwI]); exact n0) ?_
       rw [fwI (by omega) (by omega)]
       refine (jS (v := (true, (a : Int), acc)) (fun j => ?_)).trans ?_
       ·by_cases h : c = q
        ·exact iT (dT (dq.2 h)) rfl
        ·refine iF (dF (fun hh => h (dq.1 hh))) ?_
         rw [dT (hbad.resolve_left h)]
       ·rfl
      ·exact iT rfl rfl
    ·rw [if_neg hbad]
     obtain ⟨n, q1, q2, q3, q4, -⟩ := dec_size (s := c :: r) (by simp)
     have hnq : ¬ c = q := fun h => hbad (.inl h)
     have h32 : ¬ (dec (c :: r)).1 < 32 := fun h => hbad (.inr h)
     have hstop : n ≤ e - a := by
      refine dec_stop (b := q) (w := []) (i := e - a) (by omega) q1 ?_ (by clear q1; omega) hq
      rw [← hc, List.drop_drop, show a + (e - a) = e by clear q1; omega, hend]
     rw [q1]
     simp only [Int.toNat_natCast]
     obtain ⟨s1, s2⟩ := step (dec (c :: r)).1 n q2 (by clear q1; omega)
     constructor
     ·refine iT (dT (by clear q1; omega)) ?_
      refine bS (by (try simp (disch := omega) only [fwI]); exact nx) ?_
      refine bS (by (try simp (disch := omega) only [fwI]); exact nc) ?_
      refine (jS (v := ((n : Int), (dec (c :: r)).1, (a : Int), acc)) (fun j => ?_)).trans ?_
      ·refine iF (dF (by clear q1; omega)) ?_
       refine (jS (v := (false, (a : Int), acc)) (fun j => ?_)).trans ?_
       ·refine bS (by (try simp (disch := omega) only [fwI]); exact nc) ?_
        refine bS (by (try simp (disch := omega) only [fwI]); exact n0) ?_
        refine iF (dF (by clear q1; omega)) ?_
        rw [dF h32]
       ·refine iF rfl ?_
        rw [q1]
      ·exact s1
     ·refine iT (dT (by clear q1; omega)) ?_
      refine bS (by (try simp (disch := omega) only [fwI]); exact rnx) ?_
      refine (jS (v := ((dec (c :: r)).1, (n : Int), (a : Int), acc)) (fun j => ?_)).trans ?_
      ·refine iF (dF d92) ?_
       refine bS (by (try simp (disch := omega) only [fwI]); exact n0) ?_
       rw [fwI (by clear q1; omega) (by clear q1; omega)]
       refine (jS (v := (false, (a : Int), acc)) (fun j => ?_)).trans ?_
       ·refine iF (dF (fun hh => hnq (dq.1 hh))) ?_
        rw [dF h32]
       ·refine iF rfl ?_
        rw [q1]
      ·refine iF (dF (by clear q1; omega)) ?_
       exact s2
  ·obtain rfl : a = e := by omega
   have qv : quV q a s (d + 1) a = some [] := by simp only [quV]; rw [if_pos (Nat.le_refl _)]
   rw [qv]
   simp only [List.append_nil]
   constructor
   ·refine iF (dF (by omega)) ?_
    exact iF (by first | rfl | (rw [dT rfl]; rfl)) rfl
   ·exact iF (dF (by omega)) rfl
end Go.Proofs.Ytabhkocokojddaa.Am
set_option maxRecDepth 100000
set_option linter.unusedVariables false
namespace Go.Proofs.Ytabhkocokojddaa.Am
noncomputable section
open Go
def X45 : Fx Bool := ⟨Try.prog, cx, Try.f45, fun r => .bool r, 0, fun _ => H0, cxTi, cxOrd⟩
def g45p0 : Pt := nav [0] (bodyAt Try.f45)
def g45p1 : Pt := nav [0, 0, 0] g45p0
def g45 (k : Nat) (a0 : (List Nat)) : Option Bool :=
 if (!(eqL a0 [])) then ((g83 k a0).bind fun x0_4 => some (decide (x0_4 = (a0.length : Int)))) else (some false)
theorem g45_ok (k : Nat) (a0 : (List Nat)) (r : Bool) (h : g45 k a0 = some r) : PureOk Try.prog 45 [.str a0] (.bool r) := by
 refine pure_of X45 (fun _ => rfl) Try.func45 (by decide +kernel) (by kernel_rfl) (t := g45 k a0) ?_ h
 unfold g45
 refine oE (eE := [(0, .str a0)]) (by kernel_rfl) ?_
 let E1 : Env := [(5, .bool (!(eqL a0 []))), (4, .bool (!(eqL a0 []))), (3, .str a0), (2, .bool false), (0, .str a0)]
 refine oR 9 (p' := (atN 3 (ctl1 g45p1))) (eE := E1) (H' := (mkH [])) (by kernel_rfl) ?_
 refine oS 5 (b := !(eqL a0 [])) (by kernel_rfl) (fun hb => ?_) (fun hb => ?_)
 ·refine oR 1 (p' := (atN 4 (ctl1 g45p1))) (eE := ((6, .str a0) :: (5, .bool true) :: E1)) (H' := (mkH [])) (by kernel_rfl) ?_
  refine oC (fun (x0_4 : Int) => .int .i64 x0_4) (atN 5 (ctl1 g45p1)) (fun x0_4 => ((7, .int .i64 x0_4) :: (6, .str a0) :: (5, .bool true) :: E1)) (fi := 83) (args := [.str a0]) (by kernel_rfl) (by kernel_rfl) (fun _ => by kernel_rfl) (fun r h => g83_ok k a0 r h) (fun _ => by kernel_rfl) (fun x0_4 hx0_4 => ?_)
  let E2 : Env := ((2, .bool (decide (x0_4 = (a0.length : Int)))) :: (11, .bool (decide (x0_4 = (a0.length : Int)))) :: (10, .bool (decide (x0_4 = (a0.length : Int)))) :: (9, .int .i64 (a0.length : Int)) :: (8, .str a0) :: (7, .int .i64 x0_4) :: (6, .str a0) :: (5, .bool true) :: E1)
  refine oR 7 (p' := .fin) (eE := E2) (H' := (mkH [])) (by kernel_rfl) ?_
  exact oT (r := (decide (x0_4 = (a0.length : Int)))) (xs := [.bool (decide (x0_4 = (a0.length : Int)))]) (v := .bool (decide (x0_4 = (a0.length : Int)))) (by kernel_rfl) (by kernel_rfl) (by kernel_rfl) (.pures (by kernel_rfl)) (by kernel_rfl)
 ·let E3 : Env := ((2, .bool false) :: (11, .bool false) :: (10, .tuple []) :: (9, .tuple []) :: (8, .tuple []) :: (7, .tuple []) :: (6, .tuple []) :: (5, .bool false) :: E1)
  refine oR 9 (p' := .fin) (eE := E3) (H' := (mkH [])) (by kernel_rfl) ?_
  exact oT (r := false) (xs := [.bool false]) (v := .bool false) (by kernel_rfl) (by kernel_rfl) (by kernel_rfl) (.pures (by kernel_rfl)) (by kernel_rfl)
end
end Go.Proofs.Ytabhkocokojddaa.Am
set_option maxRecDepth 100000
set_option linter.unusedVariables false
namespace Go.Proofs.Ytabhkocokojddaa.Am
noncomputable section
open Go
def X36 : Fx Bool := ⟨Try.prog, cx, Try.f36, fun r => .bool r, 0, fun _ => H0, cxTi, cxOrd⟩
def g36c0 : List Nat := [49, 56, 52, 52, 54, 55, 52, 52, 48, 55, 51, 55, 48, 57, 53, 53, 49, 54, 49, 54]
def g36c1 : List Nat := [34, 97, 92, 120, 123, 101, 57, 125, 34]
def g36c2 : List Nat := [49, 46, 53, 101, 45, 51]
def g36p0 : Pt := nav [0] (bodyAt Try.f36)
def g36p1 : Pt := nav [0, 0, 0] g36p0
def g36p2 : Pt := nav [0, 0, 0] g36p1
def g36p3 : Pt := nav [0, 0, 0] g36p2
def g36p4 : Pt := nav [0, 0, 0] g36p3
def g36p5 : Pt := nav [0, 0, 0] g36p4
def g36p6 : Pt := nav [0, 0, 0] g36p5
def g36 (k : Nat)  : Option Bool :=
 (g37 k ([49, 54, 35, 70, 70] : List Nat)).bind fun x0_0 => (g37 k g36c0).bind fun x1_0 => (g39 k ([36, 92, 110] : List Nat)).bind fun x2_0 => (g43 k g36c1).bind fun x3_0 => (g41 k ([92, 49, 48, 49] : List Nat) (0 : Int)).bind fun x4_0 => if (decide (x0_0.2 = 0)) then (if (decide (x0_0.1 = 255)) then (if (decide (x1_0.2 = 6)) then (if (decide (x2_0.2 = 0)) then (if (decide (x2_0.1 = 10)) then (if (decide (x3_0.2 = 0)) then (if (decide ((x3_0.1.length : Int) = 2)) then ((nthL x3_0.1 1).bind fun x5_29 => if (decide (x5_29 = 233)) then (if (decide (x4_0.1 = 65)) then (if (decide (x4_0.2 = 4)) then ((g45 k g36c2).bind fun x5_42 => if x5_42 then ((g45 k ([49, 46] : List Nat)).bind fun x5_45 => some (!x5_45)) else (some false)) else (some false)) else (some false)) else (some false)) else (some false)) else (some false)) else (some false)) else (some false)) else (some false)) else (some false)) else (some false)
theorem g36_ok (k : Nat)  (r : Bool) (h : g36 k  = some r) : PureOk Try.prog 36 [] (.bool r) := by
 refine pure_of X36 (fun _ => rfl) Try.func36 (by decide +kernel) (by kernel_rfl) (t := g36 k ) ?_ h
 unfold g36
 refine oE (eE := []) (by kernel_rfl) ?_
 refine oR 6 (p' := (atN 0 (ctl1 g36p1))) (eE := [(0, .bool false)]) (H' := (mkH [])) (by kernel_rfl) ?_
 refine oC (fun (x0_0 : (Int × Int)) => .tuple [.int .u64 x0_0.1, .int .i64 x0_0.2]) (atN 1 (ctl1 g36p1)) (fun x0_0 => [(12, .tuple [.int .u64 x0_0.1, .int .i64 x0_0.2]), (0, .bool false)]) (fi := 37) (args := [.str [49, 54, 35, 70, 70]]) (by kernel_rfl) (by kernel_rfl) (fun _ => by kernel_rfl) (fun r h => g37_ok k ([49, 54, 35, 70, 70] : List Nat) r h) (fun _ => by kernel_rfl) (fun x0_0 hx0_0 => ?_)
 let E1 : Env := [(2, .int .i64 x0_0.2), (1, .int .u64 x0_0.1), (14, .int .i64 x0_0.2), (13, .int .u64 x0_0.1), (11, .tuple [.int .u64 x0_0.1, .int .i64 x0_0.2]), (12, .tuple [.int .u64 x0_0.1, .int .i64 x0_0.2]), (0, .bool false)]
 refine oR 8 (p' := (atN 0 (ctl1 g36p2))) (eE := E1) (H' := (mkH [])) (by kernel_rfl) ?_
 refine oC (fun (x1_0 : (Int × Int)) => .tuple [.int .u64 x1_0.1, .int .i64 x1_0.2]) (atN 1 (ctl1 g36p2)) (fun x1_0 => ((16, .tuple [.int .u64 x1_0.1, .int .i64 x1_0.2]) :: E1)) (fi := 37) (args := [.str g36c0]) (by kernel_rfl) (by kernel_rfl) (fun _ => by kernel_rfl) (fun r h => g37_ok k g36c0 r h) (fun _ => by kernel_rfl) (fun x1_0 hx1_0 => ?_)
 let E2 : Env := ((4, .int .i64 x1_0.2) :: (3, .int .u64 x1_0.1) :: (18, .int .i64 x1_0.2) :: (17, .int .u64 x1_0.1) :: (15, .tuple [.int .u64 x1_0.1, .int .i64 x1_0.2]) :: (16, .tuple [.int .u64 x1_0.1, .int .i64 x1_0.2]) :: E1)
 refine oR 7 (p' := g36p3) (eE := E2) (H' := (mkH [])) (by kernel_rfl) ?_
 refine oK [1, 2, 4] (eE := [(1, .int .u64 x0_0.1), (2, .int .i64 x0_0.2), (4, .int .i64 x1_0.2)]) (by kernel_rfl) ?_
 refine oR 1 (p' := (atN 0 (ctl1 g36p3))) (eE := [(1, .int .u64 x0_0.1), (2, .int .i64 x0_0.2), (4, .int .i64 x1_0.2)]) (H' := (mkH [])) (by kernel_rfl) ?_
 refine oC (fun (x2_0 : (Int × Int)) => .tuple [.int .i64 x2_0.1, .int .i64 x2_0.2]) (atN 1 (ctl1 g36p3)) (fun x2_0 => [(20, .tuple [.int .i64 x2_0.1, .int .i64 x2_0.2]), (1, .int .u64 x0_0.1), (2, .int .i64 x0_0.2), (4, .int .i64 x1_0.2)]) (fi := 39) (args := [.str [36, 92, 110]]) (by kernel_rfl) (by kernel_rfl) (fun _ => by kernel_rfl) (fun r h => g39_ok k ([36, 92, 110] : List Nat) r h) (fun _ => by kernel_rfl) (fun x2_0 hx2_0 => ?_)
 let E3 : Env := [(6, .int .i64 x2_0.2), (5, .int .i64 x2_0.1), (22, .int .i64 x2_0.2), (21, .int .i64 x2_0.1), (19, .tuple [.int .i64 x2_0.1, .int .i64 x2_0.2]), (20, .tuple [.int .i64 x2_0.1, .int .i64 x2_0.2]), (1, .int .u64 x0_0.1), (2, .int .i64 x0_0.2), (4, .int .i64 x1_0.2)]
 refine oR 8 (p' := (atN 0 (ctl1 g36p4))) (eE := E3) (H' := (mkH [])) (by kernel_rfl) ?_
 refine oC (fun (x3_0 : ((List Int) × Int)) => .tuple [.vec (x3_0.1).length 1 ((x3_0.1).flatMap e3), .int .i64 x3_0.2]) (atN 1 (ctl1 g36p4)) (fun x3_0 => ((24, .tuple [.vec (x3_0.1).length 1 ((x3_0.1).flatMap e3), .int .i64 x3_0.2]) :: E3)) (fi := 43) (args := [.str g36c1]) (by kernel_rfl) (by kernel_rfl) (fun _ => by kernel_rfl) (fun r h => g43_ok k g36c1 r h) (fun _ => by kernel_rfl) (fun x3_0 hx3_0 => ?_)
 let E4 : Env := ((8, .int .i64 x3_0.2) :: (7, .vec (x3_0.1).length 1 ((x3_0.1).flatMap e3)) :: (26, .int .i64 x3_0.2) :: (25, .vec (x3_0.1).length 1 ((x3_0.1).flatMap e3)) :: (23, .tuple [.vec (x3_0.1).length 1 ((x3_0.1).flatMap e3), .int .i64 x3_0.2]) :: (24, .tuple [.vec (x3_0.1).length 1 ((x3_0.1).flatMap e3), .int .i64 x3_0.2]) :: E3)
 refine oR 7 (p' := g36p5) (eE := E4) (H' := (mkH [])) (by kernel_rfl) ?_
 refine oK [1, 2, 4, 5, 6, 7, 8] (eE := [(1, .int .u64 x0_0.1), (2, .int .i64 x0_0.2), (4, .int .i64 x1_0.2), (5, .int .i64 x2_0.1), (6, .int .i64 x2_0.2), (7, .vec (x3_0.1).length 1 ((x3_0.1).flatMap e3)), (8, .int .i64 x3_0.2)]) (by kernel_rfl) ?_
 let E5 : Env := [(1, .int .u64 x0_0.1), (2, .int .i64 x0_0.2), (4, .int .i64 x1_0.2), (5, .int .i64 x2_0.1), (6, .int .i64 x2_0.2), (7, .vec (x3_0.1).length 1 ((x3_0.1).flatMap e3)), (8, .int .i64 x3_0.2)]
 refine oR 1 (p' := (atN 0 (ctl1 g36p5))) (eE := E5) (H' := (mkH [])) (by kernel_rfl) ?_
 refine oC (fun (x4_0 : (Int × Int)) => .tuple [.int .i64 x4_0.1, .int .i64 x4_0.2]) (atN 1 (ctl1 g36p5)) (fun x4_0 => ((28, .tuple [.int .i64 x4_0.1, .int .i64 x4_0.2]) :: E5)) (fi := 41) (args := [.str [92, 49, 48, 49], .int .i64 0]) (by kernel_rfl) (by kernel_rfl) (fun _ => by kernel_rfl) (fun r h => g41_ok k ([92, 49, 48, 49] : List Nat) (0 : Int) r h) (fun _ => by kernel_rfl) (fun x4_0 hx4_0 => ?_)
 let E6 : Env := ((33, .bool (decide (x0_0.2 = 0))) :: (32, .bool (decide (x0_0.2 = 0))) :: (31, .int .i64 x0_0.2) :: (10, .int .i64 x4_0.2) :: (9, .int .i64 x4_0.1) :: (30, .int .i64 x4_0.2) :: (29, .int .i64 x4_0.1) :: (27, .tuple [.int .i64 x4_0.1, .int .i64 x4_0.2]) :: (28, .tuple [.int .i64 x4_0.1, .int .i64 x4_0.2]) :: E5)
 refine oR 11 (p' := (atN 3 (ctl1 g36p6))) (eE := E6) (H' := (mkH [])) (by kernel_rfl) ?_
 refine oS 33 (b := decide (x0_0.2 = 0)) (by kernel_rfl) (fun hb => ?_) (fun hb => ?_)
 ·let E7 : Env := ((37, .bool (decide (x0_0.1 = 255))) :: (36, .bool (decide (x0_0.1 = 255))) :: (35, .bool (decide (x0_0.1 = 255))) :: (34, .int .u64 x0_0.1) :: (33, .bool true) :: E6)
  refine oR 4 (p' := (atN 7 (ctl1 g36p6))) (eE := E7) (H' := (mkH [])) (by kernel_rfl) ?_
  refine oS 37 (b := decide (x0_0.1 = 255)) (by kernel_rfl) (fun hb => ?_) (fun hb => ?_)
  ·let E8 : Env := ((41, .bool (decide (x1_0.2 = 6))) :: (40, .bool (decide (x1_0.2 = 6))) :: (39, .bool (decide (x1_0.2 = 6))) :: (38, .int .i64 x1_0.2) :: (37, .bool true) :: E7)
   refine oR 4 (p' := (atN 11 (ctl1 g36p6))) (eE := E8) (H' := (mkH [])) (by kernel_rfl) ?_
   refine oS 41 (b := decide (x1_0.2 = 6)) (by kernel_rfl) (fun hb => ?_) (fun hb => ?_)
   ·let E9 : Env := ((45, .bool (decide (x2_0.2 = 0))) :: (44, .bool (decide (x2_0.2 = 0))) :: (43, .bool (decide (x2_0.2 = 0))) :: (42, .int .i64 x2_0.2) :: (41, .bool true) :: E8)
    refine oR 4 (p' := (atN 15 (ctl1 g36p6))) (eE := E9) (H' := (mkH [])) (by kernel_rfl) ?_
    refine oS 45 (b := decide (x2_0.2 = 0)) (by kernel_rfl) (fun hb => ?_) (fun hb => ?_)
    ·let E10 : Env := ((49, .bool (decide (x2_0.1 = 10))) :: (48, .bool (decide (x2_0.1 = 10))) :: (47, .bool (decide (x2_0.1 = 10))) :: (46, .int .i64 x2_0.1) :: (45, .bool true) :: E9)
     refine oR 4 (p' := (atN 19 (ctl1 g36p6))) (eE := E10) (H' := (mkH [])) (by kernel_rfl) ?_
     refine oS 49 (b := decide (x2_0.1 = 10)) (by kernel_rfl) (fun hb => ?_) (fun hb => ?_)
     ·let E11 : Env := ((53, .bool (decide (x3_0.2 = 0))) :: (52, .bool (decide (x3_0.2 = 0))) :: (51, .bool (decide (x3_0.2 = 0))) :: (50, .int .i64 x3_0.2) :: (49, .bool true) :: E10)
      refine oR 4 (p' := (atN 23 (ctl1 g36p6))) (eE := E11) (H' := (mkH [])) (by kernel_rfl) ?_
      refine oS 53 (b := decide (x3_0.2 = 0)) (by kernel_rfl) (fun hb => ?_) (fun hb => ?_)
      ·let E12 : Env := ((58, .bool (decide ((x3_0.1.length : Int) = 2))) :: (57, .bool (decide ((x3_0.1.length : Int) = 2))) :: (56, .bool (decide ((x3_0.1.length : Int) = 2))) :: (55, .int .i64 (x3_0.1.length : Int)) :: (54, .vec (x3_0.1).length 1 ((x3_0.1).flatMap e3)) :: (53, .bool true) :: E11)
       refine oR 5 (p' := (atN 28 (ctl1 g36p6))) (eE := E12) (H' := (mkH [])) (by kernel_rfl) ?_
       refine oS 58 (b := decide ((x3_0.1.length : Int) = 2)) (by kernel_rfl) (fun hb => ?_) (fun hb => ?_)
       ·refine oR 1 (p' := (atN 29 (ctl1 g36p6))) (eE := ((59, .vec (x3_0.1).length 1 ((x3_0.1).flatMap e3)) :: (58, .bool true) :: E12)) (H' := (mkH [])) (by kernel_rfl) ?_
        refine oH (fun (x5_29 : Int) => (.vptr [.int .i64 x5_29], (mkH []))) (atN 30 (ctl1 g36p6)) (fun x5_29 => ((60, .vptr [.int .i64 x5_29]) :: (59, .vec (x3_0.1).length 1 ((x3_0.1).flatMap e3)) :: (58, .bool true) :: E12)) (vidxH (sz := 1) e3_len (by kernel_rfl)) (fun _ => by kernel_rfl) (fun x5_29 hx5_29 => ?_)
        let E13 : Env := ((64, .bool (decide (x5_29 = 233))) :: (63, .bool (decide (x5_29 = 233))) :: (62, .bool (decide (x5_29 = 233))) :: (61, .int .i64 x5_29) :: (60, .vptr [.int .i64 x5_29]) :: (59, .vec (x3_0.1).length 1 ((x3_0.1).flatMap e3)) :: (58, .bool true) :: E12)
        refine oR 4 (p' := (atN 34 (ctl1 g36p6))) (eE := E13) (H' := (mkH [])) (by kernel_rfl) ?_
        refine oS 64 (b := decide (x5_29 = 233)) (by kernel_rfl) (fun hb => ?_) (fun hb => ?_)
        ·let E14 : Env := ((68, .bool (decide (x4_0.1 = 65))) :: (67, .bool (decide (x4_0.1 = 65))) :: (66, .bool (decide (x4_0.1 = 65))) :: (65, .int .i64 x4_0.1) :: (64, .bool true) :: E13)
         refine oR 4 (p' := (atN 38 (ctl1 g36p6))) (eE := E14) (H' := (mkH [])) (by kernel_rfl) ?_
         refine oS 68 (b := decide (x4_0.1 = 65)) (by kernel_rfl) (fun hb => ?_) (fun hb => ?_)
         ·let E15 : Env := ((72, .bool (decide (x4_0.2 = 4))) :: (71, .bool (decide (x4_0.2 = 4))) :: (70, .bool (decide (x4_0.2 = 4))) :: (69, .int .i64 x4_0.2) :: (68, .bool true) :: E14)
          refine oR 4 (p' := (atN 42 (ctl1 g36p6))) (eE := E15) (H' := (mkH [])) (by kernel_rfl) ?_
          refine oS 72 (b := decide (x4_0.2 = 4)) (by kernel_rfl) (fun hb => ?_) (fun hb => ?_)
          ·refine oC (fun (x5_42 : Bool) => .bool x5_42) (atN 43 (ctl1 g36p6)) (fun x5_42 => ((73, .bool x5_42) :: (72, .bool true) :: E15)) (fi := 45) (args := [.str g36c2]) (by kernel_rfl) (by kernel_rfl) (fun _ => by kernel_rfl) (fun r h => g45_ok k g36c2 r h) (fun _ => by kernel_rfl) (fun x5_42 hx5_42 => ?_)
           refine oR 2 (p' := (atN 45 (ctl1 g36p6))) (eE := ((75, .bool x5_42) :: (74, .bool x5_42) :: (73, .bool x5_42) :: (72, .bool true) :: E15)) (H' := (mkH [])) (by kernel_rfl) ?_
           refine oS 75 (b := x5_42) (by kernel_rfl) (fun hb => ?_) (fun hb => ?_)
           ·refine oC (fun (x5_45 : Bool) => .bool x5_45) (atN 46 (ctl1 g36p6)) (fun x5_45 => ((76, .bool x5_45) :: (75, .bool true) :: (75, .bool x5_42) :: (74, .bool x5_42) :: (73, .bool x5_42) :: (72, .bool true) :: E15)) (fi := 45) (args := [.str [49, 46]]) (by kernel_rfl) (by kernel_rfl) (fun _ => by kernel_rfl) (fun r h => g45_ok k ([49, 46] : List Nat) r h) (fun _ => by kernel_rfl) (fun x5_45 hx5_45 => ?_)
            let E16 : Env := ((0, .bool (!x5_45)) :: (78, .bool (!x5_45)) :: (77, .bool (!x5_45)) :: (76, .bool x5_45) :: (75, .bool true) :: (75, .bool x5_42) :: (74, .bool x5_42) :: (73, .bool x5_42) :: (72, .bool true) :: E15)
            refine oR 5 (p' := .fin) (eE := E16) (H' := (mkH [])) (by kernel_rfl) ?_
            exact oT (r := (!x5_45)) (xs := [.bool (!x5_45)]) (v := .bool (!x5_45)) (by kernel_rfl) (by kernel_rfl) (by kernel_rfl) (.pures (by kernel_rfl)) (by kernel_rfl)
           ·let E17 : Env := ((0, .bool false) :: (78, .bool false) :: (77, .tuple []) :: (76, .tuple []) :: (75, .bool false) :: (75, .bool x5_42) :: (74, .bool x5_42) :: (73, .bool x5_42) :: (72, .bool true) :: E15)
            refine oR 6 (p' := .fin) (eE := E17) (H' := (mkH [])) (by kernel_rfl) ?_
            exact oT (r := false) (xs := [.bool false]) (v := .bool false) (by kernel_rfl) (by kernel_rfl) (by kernel_rfl) (.pures (by kernel_rfl)) (by kernel_rfl)
          ·let E18 : Env := ((0, .bool false) :: (78, .bool false) :: (77, .tuple []) :: (76, .tuple []) :: (75, .bool false) :: (74, .bool false) :: (73, .tuple []) :: (72, .bool false) :: E15)
           refine oR 9 (p' := .fin) (eE := E18) (H' := (mkH [])) (by kernel_rfl) ?_
           exact oT (r := false) (xs := [.bool false]) (v := .bool false) (by kernel_rfl) (by kernel_rfl) (by kernel_rfl) (.pures (by kernel_rfl)) (by kernel_rfl)
         ·let E19 : Env := ((0, .bool false) :: (78, .bool false) :: (77, .tuple []) :: (76, .tuple []) :: (75, .bool false) :: (74, .bool false) :: (73, .tuple []) :: (72, .bool false) :: (71, .bool false) :: (70, .tuple []) :: (69, .tuple []) :: (68, .bool false) :: E14)
          refine oR 13 (p' := .fin) (eE := E19) (H' := (mkH [])) (by kernel_rfl) ?_
          exact oT (r := false) (xs := [.bool false]) (v := .bool false) (by kernel_rfl) (by kernel_rfl) (by kernel_rfl) (.pures (by kernel_rfl)) (by kernel_rfl)
        ·let E20 : Env := ((0, .bool false) :: (78, .bool false) :: (77, .tuple []) :: (76, .tuple []) :: (75, .bool false) :: (74, .bool false) :: (73, .tuple []) :: (72, .bool false) :: (71, .bool false) :: (70, .tuple []) :: (69, .tuple []) :: (68, .bool false) :: (67, .bool false) :: (66, .tuple []) :: (65, .tuple []) :: (64, .bool false) :: E13)
         refine oR 17 (p' := .fin) (eE := E20) (H' := (mkH [])) (by kernel_rfl) ?_
         exact oT (r := false) (xs := [.bool false]) (v := .bool false) (by kernel_rfl) (by kernel_rfl) (by kernel_rfl) (.pures (by kernel_rfl)) (by kernel_rfl)
       ·let E21 : Env := ((0, .bool false) :: (78, .bool false) :: (77, .tuple []) :: (76, .tuple []) :: (75, .bool false) :: (74, .bool false) :: (73, .tuple []) :: (72, .bool false) :: (71, .bool false) :: (70, .tuple []) :: (69, .tuple []) :: (68, .bool false) :: (67, .bool false) :: (66, .tuple []) :: (65, .tuple []) :: (64, .bool false) :: (63, .bool false) :: (62, .tuple []) :: (61, .tuple []) :: (60, .tuple []) :: (59, .tuple []) :: (58, .bool false) :: E12)
        refine oR 23 (p' := .fin) (eE := E21) (H' := (mkH [])) (by kernel_rfl) ?_
        exact oT (r := false) (xs := [.bool false]) (v := .bool false) (by kernel_rfl) (by kernel_rfl) (by kernel_rfl) (.pures (by kernel_rfl)) (by kernel_rfl)
      ·let E22 : Env := ((0, .bool false) :: (78, .bool false) :: (77, .tuple []) :: (76, .tuple []) :: (75, .bool false) :: (74, .bool false) :: (73, .tuple []) :: (72, .bool false) :: (71, .bool false) :: (70, .tuple []) :: (69, .tuple []) :: (68, .bool false) :: (67, .bool false) :: (66, .tuple []) :: (65, .tuple []) :: (64, .bool false) :: (63, .bool false) :: (62, .tuple []) :: (61, .tuple []) :: (60, .tuple []) :: (59, .tuple []) :: (58, .bool false) :: (57, .bool false) :: (56, .tuple []) :: (55, .tuple []) :: (54, .tuple []) :: (53, .bool false) :: E11)
       refine oR 28 (p' := .fin) (eE := E22) (H' := (mkH [])) (by kernel_rfl) ?_
       exact oT (r := false) (xs := [.bool false]) (v := .bool false) (by kernel_rfl) (by kernel_rfl) (by kernel_rfl) (.pures (by kernel_rfl)) (by kernel_rfl)
     ·let E23 : Env := ((0, .bool false) :: (78, .bool false) :: (77, .tuple []) :: (76, .tuple []) :: (75, .bool false) :: (74, .bool false) :: (73, .tuple []) :: (72, .bool false) :: (71, .bool false) :: (70, .tuple []) :: (69, .tuple []) :: (68, .bool false) :: (67, .bool false) :: (66, .tuple []) :: (65, .tuple []) :: (64, .bool false) :: (63, .bool false) :: (62, .tuple []) :: (61, .tuple []) :: (60, .tuple []) :: (59, .tuple []) :: (58, .bool false) :: (57, .bool false) :: (56, .tuple []) :: (55, .tuple []) :: (54, .tuple []) :: (53, .bool false) :: (52, .bool false) :: (51, .tuple []) :: (50, .tuple []) :: (49, .bool false) :: E10)
      refine oR 32 (p' := .fin) (eE := E23) (H' := (mkH [])) (by kernel_rfl) ?_
      exact oT (r := false) (xs := [.bool false]) (v := .bool false) (by kernel_rfl) (by kernel_rfl) (by kernel_rfl) (.pures (by kernel_rfl)) (by kernel_rfl)
    ·let E24 : Env := ((0, .bool false) :: (78, .bool false) :: (77, .tuple []) :: (76, .tuple []) :: (75, .bool false) :: (74, .bool false) :: (73, .tuple []) :: (72, .bool false) :: (71, .bool false) :: (70, .tuple []) :: (69, .tuple []) :: (68, .bool false) :: (67, .bool false) :: (66, .tuple []) :: (65, .tuple []) :: (64, .bool false) :: (63, .bool false) :: (62, .tuple []) :: (61, .tuple []) :: (60, .tuple []) :: (59, .tuple []) :: (58, .bool false) :: (57, .bool false) :: (56, .tuple []) :: (55, .tuple []) :: (54, .tuple []) :: (53, .bool false) :: (52, .bool false) :: (51, .tuple []) :: (50, .tuple []) :: (49, .bool false) :: (48, .bool false) :: (47, .tuple []) :: (46, .tuple []) :: (45, .bool false) :: E9)
     refine oR 36 (p' := .fin) (eE := E24) (H' := (mkH [])) (by kernel_rfl) ?_
     exact oT (r := false) (xs := [.bool false]) (v := .bool false) (by kernel_rfl) (by kernel_rfl) (by kernel_rfl) (.pures (by kernel_rfl)) (by kernel_rfl)
   ·let E25 : Env := ((0, .bool false) :: (78, .bool false) :: (77, .tuple []) :: (76, .tuple []) :: (75, .bool false) :: (74, .bool false) :: (73, .tuple []) :: (72, .bool false) :: (71, .bool false) :: (70, .tuple []) :: (69, .tuple []) :: (68, .bool false) :: (67, .bool false) :: (66, .tuple []) :: (65, .tuple []) :: (64, .bool false) :: (63, .bool false) :: (62, .tuple []) :: (61, .tuple []) :: (60, .tuple []) :: (59, .tuple []) :: (58, .bool false) :: (57, .bool false) :: (56, .tuple []) :: (55, .tuple []) :: (54, .tuple []) :: (53, .bool false) :: (52, .bool false) :: (51, .tuple []) :: (50, .tuple []) :: (49, .bool false) :: (48, .bool false) :: (47, .tuple []) :: (46, .tuple []) :: (45, .bool false) :: (44, .bool false) :: (43, .tuple []) :: (42, .tuple []) :: (41, .bool false) :: E8)
    refine oR 40 (p' := .fin) (eE := E25) (H' := (mkH [])) (by kernel_rfl) ?_
    exact oT (r := false) (xs := [.bool false]) (v := .bool false) (by kernel_rfl) (by kernel_rfl) (by kernel_rfl) (.pures (by kernel_rfl)) (by kernel_rfl)
  ·let E26 : Env := ((0, .bool false) :: (78, .bool false) :: (77, .tuple []) :: (76, .tuple []) :: (75, .bool false) :: (74, .bool false) :: (73, .tuple []) :: (72, .bool false) :: (71, .bool false) :: (70, .tuple []) :: (69, .tuple []) :: (68, .bool false) :: (67, .bool false) :: (66, .tuple []) :: (65, .tuple []) :: (64, .bool false) :: (63, .bool false) :: (62, .tuple []) :: (61, .tuple []) :: (60, .tuple []) :: (59, .tuple []) :: (58, .bool false) :: (57, .bool false) :: (56, .tuple []) :: (55, .tuple []) :: (54, .tuple []) :: (53, .bool false) :: (52, .bool false) :: (51, .tuple []) :: (50, .tuple []) :: (49, .bool false) :: (48, .bool false) :: (47, .tuple []) :: (46, .tuple []) :: (45, .bool false) :: (44, .bool false) :: (43, .tuple []) :: (42, .tuple []) :: (41, .bool false) :: (40, .bool false) :: (39, .tuple []) :: (38, .tuple []) :: (37, .bool false) :: E7)
   refine oR 44 (p' := .fin) (eE := E26) (H' := (mkH [])) (by kernel_rfl) ?_
   exact oT (r := false) (xs := [.bool false]) (v := .bool false) (by kernel_rfl) (by kernel_rfl) (by kernel_rfl) (.pures (by kernel_rfl)) (by kernel_rfl)
 ·let E27 : Env := ((0, .bool false) :: (78, .bool false) :: (77, .tuple []) :: (76, .tuple []) :: (75, .bool false) :: (74, .bool false) :: (73, .tuple []) :: (72, .bool false) :: (71, .bool false) :: (70, .tuple []) :: (69, .tuple []) :: (68, .bool false) :: (67, .bool false) :: (66, .tuple []) :: (65, .tuple []) :: (64, .bool false) :: (63, .bool false) :: (62, .tuple []) :: (61, .tuple []) :: (60, .tuple []) :: (59, .tuple []) :: (58, .bool false) :: (57, .bool false) :: (56, .tuple []) :: (55, .tuple []) :: (54, .tuple []) :: (53, .bool false) :: (52, .bool false) :: (51, .tuple []) :: (50, .tuple []) :: (49, .bool false) :: (48, .bool false) :: (47, .tuple []) :: (46, .tuple []) :: (45, .bool false) :: (44, .bool false) :: (43, .tuple []) :: (42, .tuple []) :: (41, .bool false) :: (40, .bool false) :: (39, .tuple []) :: (38, .tuple []) :: (37, .bool false) :: (36, .bool false) :: (35, .tuple []) :: (34, .tuple []) :: (33, .bool false) :: E6)
  refine oR 48 (p' := .fin) (eE := E27) (H' := (mkH [])) (by kernel_rfl) ?_
  exact oT (r := false) (xs := [.bool false]) (v := .bool false) (by kernel_rfl) (by kernel_rfl) (by kernel_rfl) (.pures (by kernel_rfl)) (by kernel_rfl)
end
end Go.Proofs.Ytabhkocokojddaa.Am
set_option maxRecDepth 100000
set_option linter.unusedVariables false
set_option linter.unusedSimpArgs false
namespace Go.Proofs.Ytabhkocokojddaa.Am
open Go
theorem told4 (k : Nat) : g36 (k + 60) = some true := by kernel_rfl
end Go.Proofs.Ytabhkocokojddaa.Am
set_option maxRecDepth 100000
set_option linter.unusedVariables false
namespace Go.Proofs.Ytabhkocokojddaa.Am
noncomputable section
open Go
def X48 : Fx (List Nat) := ⟨Try.prog, cx, Try.f48, fun r => .str r, 0, fun _ => H0, cxTi, cxOrd⟩
def g48c0 : List Nat := [48, 49, 50, 51, 52, 53, 54, 55, 56, 57, 97, 98, 99, 100, 101, 102]
def g48p0 : Pt := nav [0] (bodyAt Try.f48)
def g48p1 : Pt := nav [0, 0, 0] g48p0
def g48p2 : Pt := nav [0, 0, 0, 0] g48p1
def g48p3 : Pt := nav [0, 0, 0, 0] g48p2
def g48p4 : Pt := nav [0, 0, 0] g48p3
def g48p5 : Pt := nav [0, 0] g48p4
def g48p6 : Pt := nav [1, 0, 0, 0, 0] g48p5
def g48p8 : Pt := nav [0, 0] g48p6
def g48_l1 (k : Nat)  (a1 : Int) (n : Nat) : Int → (List Nat) → Int → Option (List Nat) :=
 Nat.rec (motive := fun _ => Int → (List Nat) → Int → Option (List Nat)) (fun _ _ _ => none) (fun _ ih => fun (y1_0 : Int) (y1_1 : (List Nat)) (y1_2 : Int) => if (decide (y1_2 < a1)) then ((subL g48c0 (some (andI .i64 y1_0 15)) (some (fW .i64 (andI .i64 y1_0 15 + 1)))).bind fun x0_5 => (catS x0_5 y1_1).bind fun x0_7 => ih (shrC y1_0 4) x0_7 (fW .i64 (y1_2 + 1))) else (some y1_1)) n
theorem g48_l1_s (k : Nat)  (a1 : Int) (n : Nat) (y1_0 : Int) (y1_1 : (List Nat)) (y1_2 : Int) : g48_l1 k a1 (n + 1) y1_0 y1_1 y1_2 = (if (decide (y1_2 < a1)) then ((subL g48c0 (some (andI .i64 y1_0 15)) (some (fW .i64 (andI .i64 y1_0 15 + 1)))).bind fun x0_5 => (catS x0_5 y1_1).bind fun x0_7 => (g48_l1 k a1 n) (shrC y1_0 4) x0_7 (fW .i64 (y1_2 + 1))) else (some y1_1)) := rfl
theorem g48_l1_ok (k : Nat)  (a1 : Int)  : ∀ (n : Nat) (y1_0 : Int) (y1_1 : (List Nat)) (y1_2 : Int), Ok X48 g48p3 [(0, .int .i64 y1_0), (1, .int .i64 a1), (5, .str y1_1), (6, .int .i64 y1_2)] (mkH []) (g48_l1 k a1 n y1_0 y1_1 y1_2)
 | 0, _, _, _ => ok_none
 | n + 1, y1_0, y1_1, y1_2 => by
  have ih := g48_l1_ok k a1 n
  rw [g48_l1_s]
  refine ok_ent (p' := nav [0] g48p3) (by kernel_rfl) ?_
  let E2 : Env := [(9, .bool (decide (y1_2 < a1))), (8, .int .i64 a1), (7, .int .i64 y1_2), (0, .int .i64 y1_0), (1, .int .i64 a1), (5, .str y1_1), (6, .int .i64 y1_2)]
  refine oR 7 (p' := g48p5) (eE := E2) (H' := (mkH [])) (by kernel_rfl) ?_
  refine oS 9 (b := decide (y1_2 < a1)) (by kernel_rfl) (fun hb => ?_) (fun hb => ?_)
  ·let E3 : Env := ((16, .int .i64 (fW .i64 (andI .i64 y1_0 15 + 1))) :: (15, .int .i64 (andI .i64 y1_0 15)) :: (14, .int .i64 y1_0) :: (13, .int .i64 (andI .i64 y1_0 15)) :: (12, .int .i64 y1_0) :: (9, .bool true) :: E2)
   refine oR 11 (p' := (atN 5 (ctl1 g48p6))) (eE := E3) (H' := (mkH [])) (by kernel_rfl) ?_
   refine oH (fun (x0_5 : (List Nat)) => (.str x0_5, (mkH []))) (atN 6 (ctl1 g48p6)) (fun x0_5 => ((17, .str x0_5) :: E3)) (subH (some (andI .i64 y1_0 15)) (some (fW .i64 (andI .i64 y1_0 15 + 1))) (by kernel_rfl)) (fun _ => by kernel_rfl) (fun x0_5 hx0_5 => ?_)
   refine oR 1 (p' := (atN 7 (ctl1 g48p6))) (eE := ((18, .str y1_1) :: (17, .str x0_5) :: E3)) (H' := (mkH [])) (by kernel_rfl) ?_
   refine oH (fun (x0_7 : (List Nat)) => (.str x0_7, (mkH []))) (atN 8 (ctl1 g48p6)) (fun x0_7 => ((19, .str x0_7) :: (18, .str y1_1) :: (17, .str x0_5) :: E3)) (catH (by kernel_rfl)) (fun _ => by kernel_rfl) (fun x0_7 hx0_7 => ?_)
   refine oR 2 (p' := g48p8) (eE := ((5, .str x0_7) :: (19, .str x0_7) :: (18, .str y1_1) :: (17, .str x0_5) :: E3)) (H' := (mkH [])) (by kernel_rfl) ?_
   refine oK [0, 1, 5, 6] (eE := [(0, .int .i64 y1_0), (1, .int .i64 a1), (5, .str x0_7), (6, .int .i64 y1_2)]) (by kernel_rfl) ?_
   let E4 : Env := [(6, .int .i64 (fW .i64 (y1_2 + 1))), (11, .int .i64 (fW .i64 (y1_2 + 1))), (10, .int .i64 y1_2), (0, .int .i64 (shrC y1_0 4)), (21, .int .i64 (shrC y1_0 4)), (20, .int .i64 y1_0), (0, .int .i64 y1_0), (1, .int .i64 a1), (5, .str x0_7), (6, .int .i64 y1_2)]
   refine oR 10 (p' := g48p3) (eE := E4) (H' := (mkH [])) (by kernel_rfl) ?_
   refine oK [0, 1, 5, 6] (eE := [(0, .int .i64 (shrC y1_0 4)), (1, .int .i64 a1), (5, .str x0_7), (6, .int .i64 (fW .i64 (y1_2 + 1)))]) (by kernel_rfl) ?_
   exact ih (shrC y1_0 4) x0_7 (fW .i64 (y1_2 + 1))
  ·refine oR 8 (p' := .fin) (eE := ((4, .str y1_1) :: (22, .str y1_1) :: (9, .bool false) :: E2)) (H' := (mkH [])) (by kernel_rfl) ?_
   exact oT (r := y1_1) (xs := [.str y1_1]) (v := .str y1_1) (by kernel_rfl) (by kernel_rfl) (by kernel_rfl) (.pures (by kernel_rfl)) (by kernel_rfl)
def g48 (k : Nat) (a0 : Int) (a1 : Int) : Option (List Nat) :=
 g48_l1 k a1 k a0 ([] : List Nat) 0
theorem g48_ok (k : Nat) (a0 : Int) (a1 : Int) (r : (List Nat)) (h : g48 k a0 a1 = some r) : PureOk Try.prog 48 [.int .i64 a0, .int .i64 a1] (.str r) := by
 refine pure_of X48 (fun _ => rfl) Try.func48 (by decide +kernel) (by kernel_rfl) (t := g48 k a0 a1) ?_ h
 unfold g48
 refine oE (eE := [(0, .int .i64 a0), (1, .int .i64 a1)]) (by kernel_rfl) ?_
 let E1 : Env := [(6, .int .i64 0), (5, .str []), (4, .str []), (0, .int .i64 a0), (1, .int .i64 a1)]
 refine oR 15 (p' := g48p3) (eE := E1) (H' := (mkH [])) (by kernel_rfl) ?_
 refine oK [0, 1, 5, 6] (eE := [(0, .int .i64 a0), (1, .int .i64 a1), (5, .str []), (6, .int .i64 0)]) (by kernel_rfl) ?_
 exact (g48_l1_ok k a1 k) a0 ([] : List Nat) 0
end
end Go.Proofs.Ytabhkocokojddaa.Am
set_option maxRecDepth 100000
set_option linter.unusedVariables false
namespace Go.Proofs.Ytabhkocokojddaa.Am
noncomputable section
open Go
def X49 : Fx (List Nat) := ⟨Try.prog, cx, Try.f49, fun r => .str r, 0, fun _ => H0, cxTi, cxOrd⟩
def g49c0 : List Nat := [48, 49, 50, 51, 52, 53, 54, 55]
def g49p0 : Pt := nav [0] (bodyAt Try.f49)
def g49p1 : Pt := nav [0, 0, 0] g49p0
def g49p2 : Pt := nav [0, 0, 0, 0] g49p1
def g49p3 : Pt := nav [0, 0, 0, 0] g49p2
def g49p4 : Pt := nav [0, 0, 0] g49p3
def g49p5 : Pt := nav [0, 0] g49p4
def g49p6 : Pt := nav [1, 0, 0, 0, 0] g49p5
def g49p8 : Pt := nav [0, 0] g49p6
def g49_l1 (k : Nat)   (n : Nat) : Int → (List Nat) → Int → Option (List Nat) :=
 Nat.rec (motive := fun _ => Int → (List Nat) → Int → Option (List Nat)) (fun _ _ _ => none) (fun _ ih => fun (y1_0 : Int) (y1_1 : (List Nat)) (y1_2 : Int) => if (decide (y1_2 < 3)) then ((subL g49c0 (some (andI .i64 y1_0 7)) (some (fW .i64 (andI .i64 y1_0 7 + 1)))).bind fun x0_5 => (catS x0_5 y1_1).bind fun x0_7 => ih (shrC y1_0 3) x0_7 (fW .i64 (y1_2 + 1))) else (some y1_1)) n
theorem g49_l1_s (k : Nat)   (n : Nat) (y1_0 : Int) (y1_1 : (List Nat)) (y1_2 : Int) : g49_l1 k (n + 1) y1_0 y1_1 y1_2 = (if (decide (y1_2 < 3)) then ((subL g49c0 (some (andI .i64 y1_0 7)) (some (fW .i64 (andI .i64 y1_0 7 + 1)))).bind fun x0_5 => (catS x0_5 y1_1).bind fun x0_7 => (g49_l1 k n) (shrC y1_0 3) x0_7 (fW .i64 (y1_2 + 1))) else (some y1_1)) := rfl
theorem g49_l1_ok (k : Nat)    : ∀ (n : Nat) (y1_0 : Int) (y1_1 : (List Nat)) (y1_2 : Int), Ok X49 g49p3 [(0, .int .i64 y1_0), (3, .str y1_1), (4, .int .i64 y1_2)] (mkH []) (g49_l1 k n y1_0 y1_1 y1_2)
 | 0, _, _, _ => ok_none
 | n + 1, y1_0, y1_1, y1_2 => by
  have ih := g49_l1_ok k n
  rw [g49_l1_s]
  refine ok_ent (p' := nav [0] g49p3) (by kernel_rfl) ?_
  let E1 : Env := [(6, .bool (decide (y1_2 < 3))), (5, .int .i64 y1_2), (0, .int .i64 y1_0), (3, .str y1_1), (4, .int .i64 y1_2)]
  refine oR 6 (p' := g49p5) (eE := E1) (H' := (mkH [])) (by kernel_rfl) ?_
  refine oS 6 (b := decide (y1_2 < 3)) (by kernel_rfl) (fun hb => ?_) (fun hb => ?_)
  ·let E2 : Env := ((13, .int .i64 (fW .i64 (andI .i64 y1_0 7 + 1))) :: (12, .int .i64 (andI .i64 y1_0 7)) :: (11, .int .i64 y1_0) :: (10, .int .i64 (andI .i64 y1_0 7)) :: (9, .int .i64 y1_0) :: (6, .bool true) :: E1)
   refine oR 11 (p' := (atN 5 (ctl1 g49p6))) (eE := E2) (H' := (mkH [])) (by kernel_rfl) ?_
   refine oH (fun (x0_5 : (List Nat)) => (.str x0_5, (mkH []))) (atN 6 (ctl1 g49p6)) (fun x0_5 => ((14, .str x0_5) :: E2)) (subH (some (andI .i64 y1_0 7)) (some (fW .i64 (andI .i64 y1_0 7 + 1))) (by kernel_rfl)) (fun _ => by kernel_rfl) (fun x0_5 hx0_5 => ?_)
   refine oR 1 (p' := (atN 7 (ctl1 g49p6))) (eE := ((15, .str y1_1) :: (14, .str x0_5) :: E2)) (H' := (mkH [])) (by kernel_rfl) ?_
   refine oH (fun (x0_7 : (List Nat)) => (.str x0_7, (mkH []))) (atN 8 (ctl1 g49p6)) (fun x0_7 => ((16, .str x0_7) :: (15, .str y1_1) :: (14, .str x0_5) :: E2)) (catH (by kernel_rfl)) (fun _ => by kernel_rfl) (fun x0_7 hx0_7 => ?_)
   refine oR 2 (p' := g49p8) (eE := ((3, .str x0_7) :: (16, .str x0_7) :: (15, .str y1_1) :: (14, .str x0_5) :: E2)) (H' := (mkH [])) (by kernel_rfl) ?_
   refine oK [0, 3, 4] (eE := [(0, .int .i64 y1_0), (3, .str x0_7), (4, .int .i64 y1_2)]) (by kernel_rfl) ?_
   let E3 : Env := [(4, .int .i64 (fW .i64 (y1_2 + 1))), (8, .int .i64 (fW .i64 (y1_2 + 1))), (7, .int .i64 y1_2), (0, .int .i64 (shrC y1_0 3)), (18, .int .i64 (shrC y1_0 3)), (17, .int .i64 y1_0), (0, .int .i64 y1_0), (3, .str x0_7), (4, .int .i64 y1_2)]
   refine oR 10 (p' := g49p3) (eE := E3) (H' := (mkH [])) (by kernel_rfl) ?_
   refine oK [0, 3, 4] (eE := [(0, .int .i64 (shrC y1_0 3)), (3, .str x0_7), (4, .int .i64 (fW .i64 (y1_2 + 1)))]) (by kernel_rfl) ?_
   exact ih (shrC y1_0 3) x0_7 (fW .i64 (y1_2 + 1))
  ·refine oR 8 (p' := .fin) (eE := ((2, .str y1_1) :: (19, .str y1_1) :: (6, .bool false) :: E1)) (H' := (mkH [])) (by kernel_rfl) ?_
   exact oT (r := y1_1) (xs := [.str y1_1]) (v := .str y1_1) (by kernel_rfl) (by kernel_rfl) (by kernel_rfl) (.pures (by kernel_rfl)) (by kernel_rfl)
def g49 (k : Nat) (a0 : Int) : Option (List Nat) :=
 g49_l1 k k a0 ([] : List Nat) 0
theorem g49_ok (k : Nat) (a0 : Int) (r : (List Nat)) (h : g49 k a0 = some r) : PureOk Try.prog 49 [.int .i64 a0] (.str r) := by
 refine pure_of X49 (fun _ => rfl) Try.func49 (by decide +kernel) (by kernel_rfl) (t := g49 k a0) ?_ h
 unfold g49
 refine oE (eE := [(0, .int .i64 a0)]) (by kernel_rfl) ?_
 refine oR 15 (p' := g49p3) (eE := [(4, .int .i64 0), (3, .str []), (2, .str []), (0, .int .i64 a0)]) (H' := (mkH [])) (by kernel_rfl) ?_
 refine oK [0, 3, 4] (eE := [(0, .int .i64 a0), (3, .str []), (4, .int .i64 0)]) (by kernel_rfl) ?_
 exact (g49_l1_ok k k) a0 ([] : List Nat) 0
end
end Go.Proofs.Ytabhkocokojddaa.Am
set_option maxRecDepth 100000
set_option linter.unusedVariables false
set_option linter.unusedSimpArgs false
namespace Go.Proofs.Ytabhkocokojddaa.Am
open Go
theorem utf_is {c : Nat} (h : cpN c = true) : utf (c : Int) = enc c := by
 have hle := cp_le h
 have hv : Utf8.valid (c : Int) = true := by
  unfold cpN at h
  unfold Utf8.valid
  simp at h ⊢
  omega
 have b : ∀ n : Nat, n < 256 → (UInt8.ofNat n).toNat = n := by intro n hn; rw [UInt8.toNat_ofNat']; omega
 unfold utf Utf8.encode enc
 simp only [hv, if_true, Int.toNat_natCast]
 by_cases h1 : c < 128
 ·rw [if_pos (by omega), if_pos h1]
  simp [b c (by omega)]
 ·rw [if_neg (by omega), if_neg h1]
  by_cases h2 : c < 2048
  ·rw [if_pos (by omega), if_pos h2]
   simp only [List.map_cons, List.map_nil]
   rw [b _ (by omega), b _ (by omega)]
  ·rw [if_neg (by omega), if_neg h2]
   by_cases h3 : c < 65536
   ·rw [if_pos (by omega), if_pos h3]
    simp only [List.map_cons, List.map_nil]
    rw [b _ (by omega), b _ (by omega), b _ (by omega)]
   ·rw [if_neg (by omega), if_neg h3]
    simp only [List.map_cons, List.map_nil]
    rw [b _ (by omega), b _ (by omega), b _ (by omega), b _ (by omega)]
theorem fw_i32 {c : Nat} (h : c ≤ 1114111) : fW .i32 (c : Int) = (c : Int) := by
 have h1 : lo .i32 ≤ (c : Int) := by show (-2147483648 : Int) ≤ _; omega
 have h2 : (c : Int) ≤ hi .i32 := by show _ ≤ (2147483647 : Int); omega
 unfold fW
 rw [if_pos (by simp [h1, h2])]
theorem enc_first (c : Nat) : ∃ d w, enc c = d :: w ∧ (c < 128 ∧ d = c ∧ w = [] ∨ 128 ≤ c ∧ 192 ≤ d) := by
 unfold enc
 by_cases h1 : c < 128
 ·rw [if_pos h1]; exact ⟨_, _, rfl, .inl ⟨h1, rfl, rfl⟩⟩
 ·rw [if_neg h1]
  by_cases h2 : c < 2048
  ·rw [if_pos h2]; exact ⟨_, _, rfl, .inr ⟨by omega, by omega⟩⟩
  ·rw [if_neg h2]
   by_cases h3 : c < 65536
   ·rw [if_pos h3]; exact ⟨_, _, rfl, .inr ⟨by omega, by omega⟩⟩
   ·rw [if_neg h3]; exact ⟨_, _, rfl, .inr ⟨by omega, by omega⟩⟩
def hexD (d : Nat) : Nat := if d < 10 then 48 + d else 87 + d
theorem hexD_dg {d : Nat} (h : d < 16) : dgN (hexD d) = d ∧ hexD d < 256 := by
 have : ((List.range 16).all fun d => decide (dgN (hexD d) = d) && decide (hexD d < 256)) = true := by decide
 have := List.all_eq_true.1 this d (List.mem_range.2 h)
 simpa using this
def dsN (b : Nat) : Nat → Nat → List Nat
 | 0, _ => []
 | n + 1, c => dsN b n (c / b) ++ [hexD (c % b)]
theorem dsN_len (b : Nat) : ∀ n c, (dsN b n c).length = n
 | 0, _ => rfl
 | n + 1, c => by simp only [dsN, List.length_append, dsN_len, List.length_cons, List.length_nil]
theorem dsN_dg {b : Nat} (hb : 0 < b ∧ b ≤ 16) : ∀ n c, ∀ x ∈ dsN b n c, dgN x < b ∧ x < 256
 | 0, _, x, h => by cases h
 | n + 1, c, x, h => by
  simp only [dsN] at h
  rcases List.mem_append.1 h with h | h
  ·exact dsN_dg hb n (c / b) x h
  ·rw [List.mem_singleton.1 h]
   have hm := Nat.mod_lt c hb.1
   obtain ⟨h1, h2⟩ := hexD_dg (d := c % b) (by omega)
   rw [h1]; exact ⟨hm, h2⟩
theorem digV_all {b : Nat} : ∀ (u : List Nat) (m v : Nat) (r : List Nat), (∀ c ∈ u, dgN c < b) → digV b (u.length + m) v (u ++ r) = ((digV b m (u.foldl (fun a c => a * b + dgN c) v) r).1, u.length + (digV b m (u.foldl (fun a c => a * b + dgN c) v) r).2)
 | [], m, v, r, _ => by simp
 | c :: u, m, v, r, h => by
  have ih := digV_all u m (v * b + dgN c) r (fun x hx => h x (List.mem_cons_of_mem _ hx))
  simp only [List.length_cons, List.cons_append, List.foldl_cons]
  rw [show u.length + 1 + m = (u.length + m) + 1 by omega]
  simp only [digV]
  rw [if_pos (h c List.mem_cons_self), ih]
  refine Prod.ext rfl ?_
  simp only []; omega
theorem dsN_val {b : Nat} (hb : 0 < b ∧ b ≤ 16) : ∀ n c v, (dsN b n c).foldl (fun a c => a * b + dgN c) v = v * b ^ n + c % b ^ n
 | 0, c, v => by simp [dsN, Nat.mod_one]
 | n + 1, c, v => by
  have hm := Nat.mod_lt c hb.1
  simp only [dsN, List.foldl_append, List.foldl_cons, List.foldl_nil]
  rw [dsN_val hb n (c / b) v, (hexD_dg (d := c % b) (by omega)).1, Nat.pow_succ, Nat.add_mul, Nat.mul_assoc]
  have : c % (b ^ n * b) = c / b % b ^ n * b + c % b := by
   rw [Nat.mul_comm (b ^ n) b, Nat.mod_mul, Nat.mul_comm, Nat.add_comm]
  rw [this]; omega
theorem digV_ds {b : Nat} (hb : 0 < b ∧ b ≤ 16) (n : Nat) {c : Nat} (hc : c < b ^ n) (r : List Nat) : digV b n 0 (dsN b n c ++ r) = (c, n) := by
 have := digV_all (b := b) (dsN b n c) 0 0 r (fun x hx => (dsN_dg hb n c x hx).1)
 rw [dsN_len, Nat.add_zero] at this
 rw [this, dsN_val hb]
 simp only [digV, Nat.zero_mul, Nat.zero_add, Nat.mod_eq_of_lt hc, Nat.add_zero]
theorem sub1 {T : List Nat} {i x : Nat} {r : List Nat} (h : T.drop i = x :: r) : subL T (some (i : Int)) (some ((i + 1 : Nat) : Int)) = some [x] := by
 have dl := congrArg List.length h
 rw [List.length_drop, List.length_cons] at dl
 rw [subMid (s := T) (i := i) (j := i + 1) rfl rfl (by omega) (by omega), List.drop_take, Nat.add_sub_cancel_left, h]; rfl
theorem hexc_l (k : Nat) {n : Nat} (hn : n ≤ 20) : ∀ (d f i c : Nat) (acc : List Nat), i + d = n → d < f → c < 1099511627776 → acc.length ≤ i → g48_l1 k (n : Int) f (c : Int) acc (i : Int) = some (dsN 16 d c ++ acc)
 | 0, f, i, c, acc, h, hf, hc, ha => by
  obtain ⟨f, rfl⟩ : ∃ g, f = g + 1 := ⟨f - 1, by omega⟩
  rw [g48_l1_s]
  exact iF (dF (by omega)) rfl
 | d + 1, f, i, c, acc, h, hf, hc, ha => by
  obtain ⟨f, rfl⟩ : ∃ g, f = g + 1 := ⟨f - 1, by omega⟩
  rw [g48_l1_s]
  refine iT (dT (by omega)) ?_
  have a15 : andI .i64 (c : Int) 15 = ((c % 16 : Nat) : Int) := andI64 (c : Int) 4 (by decide)
  have hm := Nat.mod_lt c (show 0 < 16 by decide)
  have hdrop : ∃ r, g48c0.drop (c % 16) = hexD (c % 16) :: r := by
   have : ((List.range 16).all fun d => (g48c0.drop d).head? == some (hexD d)) = true := by decide
   have := List.all_eq_true.1 this (c % 16) (List.mem_range.2 hm)
   cases hh : g48c0.drop (c % 16) with
   | nil => rw [hh] at this; cases this
   | cons x r =>
    rw [hh] at this
    have e := eq_of_beq this
    simp only [List.head?_cons, Option.some.injEq] at e
    exact ⟨r, by rw [e]⟩
  obtain ⟨r, hr⟩ := hdrop
  rw [a15, fw_s (by omega)]
  refine bS (by (try simp (disch := omega) only [fwI]); exact sub1 hr) ?_
  have c1 : catS [hexD (c % 16)] acc = some (hexD (c % 16) :: acc) := by unfold catS; rw [if_pos (by simp only [List.length_cons, List.length_nil]; omega)]; rfl
  refine bS (by (try simp (disch := omega) only [fwI]); exact c1) ?_
  rw [shrC_nat, fw_s (by omega)]
  clear a15
  have ih := hexc_l k hn d f (i + 1) (c / 2 ^ 4) (hexD (c % 16) :: acc) (by omega) (by omega) (by omega) (by simp only [List.length_cons]; omega)
  refine ih.trans ?_
  simp only [dsN, List.append_assoc, List.singleton_append]
theorem hexc_at {k n c : Nat} (hn : n ≤ 20) (hk : n < k) (hc : c < 1099511627776) : g48 k (c : Int) (n : Int) = some (dsN 16 n c) := by
 have := hexc_l k hn n k 0 c [] (by omega) hk hc (Nat.le_refl _)
 rw [List.append_nil] at this
 exact this
theorem octc_l (k : Nat) : ∀ (d f i c : Nat) (acc : List Nat), i + d = 3 → d < f → c < 1099511627776 → acc.length ≤ i → g49_l1 k f (c : Int) acc (i : Int) = some (dsN 8 d c ++ acc)
 | 0, f, i, c, acc, h, hf, hc, ha => by
  obtain ⟨f, rfl⟩ : ∃ g, f = g + 1 := ⟨f - 1, by omega⟩
  rw [g49_l1_s]
  exact iF (dF (by omega)) rfl
 | d + 1, f, i, c, acc, h, hf, hc, ha => by
  obtain ⟨f, rfl⟩ : ∃ g, f = g + 1 := ⟨f - 1, by omega⟩
  rw [g49_l1_s]
  refine iT (dT (by omega)) ?_
  have a7 : andI .i64 (c : Int) 7 = ((c % 8 : Nat) : Int) := andI64 (c : Int) 3 (by decide)
  have hm := Nat.mod_lt c (show 0 < 8 by decide)
  have hdrop : ∃ r, g49c0.drop (c % 8) = hexD (c % 8) :: r := by
   have : ((List.range 8).all fun d => (g49c0.drop d).head? == some (hexD d)) = true := by decide
   have := List.all_eq_true.1 this (c % 8) (List.mem_range.2 hm)
   cases hh : g49c0.drop (c % 8) with
   | nil => rw [hh] at this; cases this
   | cons x r =>
    rw [hh] at this
    have e := eq_of_beq this
    simp only [List.head?_cons, Option.some.injEq] at e
    exact ⟨r, by rw [e]⟩
  obtain ⟨r, hr⟩ := hdrop
  rw [a7, fw_s (by omega)]
  refine bS (by (try simp (disch := omega) only [fwI]); exact sub1 hr) ?_
  have c1 : catS [hexD (c % 8)] acc = some (hexD (c % 8) :: acc) := by unfold catS; rw [if_pos (by simp only [List.length_cons, List.length_nil]; omega)]; rfl
  refine bS (by (try simp (disch := omega) only [fwI]); exact c1) ?_
  rw [shrC_nat, fw_s (by omega)]
  clear a7
  have ih := octc_l k d f (i + 1) (c / 2 ^ 3) (hexD (c % 8) :: acc) (by omega) (by omega) (by omega) (by simp only [List.length_cons]; omega)
  refine ih.trans ?_
  simp only [dsN, List.append_assoc, List.singleton_append]
theorem octc_at {k c : Nat} (hk : 3 < k) (hc : c < 1099511627776) : g49 k (c : Int) = some (dsN 8 3 c) := by
 have := octc_l k 3 k 0 c [] (by omega) hk hc (Nat.le_refl _)
 rw [List.append_nil] at this
 exact this
theorem esc_hex6 {c : Nat} (h : cpN c = true) (r : List Nat) : escN (92 :: 120 :: 123 :: (dsN 16 6 c ++ 125 :: r)) = ((c : Int), 10) := by
 have hle := cp_le h
 have e : digV 16 6 0 (dsN 16 6 c ++ 125 :: r) = (c, 6) := digV_ds (by decide) 6 (Nat.lt_of_le_of_lt hle (by decide)) _
 simp only [escN, if_true]
 unfold escB
 rw [if_pos rfl]
 simp only [hexN, if_true]
 unfold hexBr
 rw [e]
 have dl : (dsN 16 6 c ++ 125 :: r).drop 6 = 125 :: r := by
  have := List.drop_left (l₁ := dsN 16 6 c) (l₂ := 125 :: r)
  rwa [dsN_len] at this
 simp only [dl]
 rw [if_neg (by decide), if_pos ⟨trivial, h⟩]
 rfl
theorem esc_hex2 {c : Nat} (h : c < 256) (r : List Nat) : escN (92 :: 120 :: (dsN 16 2 c ++ r)) = ((c : Int), 4) := by
 have e : digV 16 2 0 (dsN 16 2 c ++ r) = (c, 2) := digV_ds (by decide) 2 (by omega) _
 have hd : ∃ x w, dsN 16 2 c = x :: w ∧ x ≠ 123 := by
  refine ⟨hexD (c / 16 % 16), [hexD (c % 16)], rfl, ?_⟩
  unfold hexD; split <;> omega
 obtain ⟨x, w, hx, hn⟩ := hd
 simp only [escN, if_true]
 unfold escB
 rw [if_pos rfl]
 have e2 : hexN (dsN 16 2 c ++ r) = hex2 (dsN 16 2 c ++ r) := by
  rw [hx]; simp only [List.cons_append, hexN, if_neg hn]
 rw [e2]
 unfold hex2
 rw [e, if_neg (show ¬ (2 : Nat) < 2 by decide)]
theorem esc_oct {c : Nat} (h : c < 512) (r : List Nat) : escN (92 :: (dsN 8 3 c ++ r)) = ((c : Int), 4) := by
 have e : digV 8 3 0 (dsN 8 3 c ++ r) = (c, 3) := digV_ds (by decide) 3 (by omega) _
 have hd : ∃ x w, dsN 8 3 c = x :: w ∧ 48 ≤ x ∧ x ≤ 55 := by
  refine ⟨hexD (c / 8 / 8 % 8), [hexD (c / 8 % 8), hexD (c % 8)], rfl, ?_, ?_⟩ <;> (unfold hexD; split <;> omega)
 obtain ⟨x, w, hx, h1, h2⟩ := hd
 rw [hx] at e ⊢
 simp only [List.cons_append, escN, if_true] at e ⊢
 unfold escB
 rw [if_neg (by omega), if_neg (by omega), if_pos ⟨h1, h2⟩]
 unfold octN
 rw [e]; rfl
end Go.Proofs.Ytabhkocokojddaa.Am
set_option maxRecDepth 100000
set_option linter.unusedVariables false
namespace Go.Proofs.Ytabhkocokojddaa.Am
noncomputable section
open Go
def X12 : Fx Bool := ⟨Try.prog, cx, Try.f12, fun r => .bool r, 0, fun _ => H0, cxTi, cxOrd⟩
def g12p0 : Pt := nav [0] (bodyAt Try.f12)
def g12p1 : Pt := nav [0, 0, 0, 0] g12p0
def g12p2 : Pt := nav [0, 0] g12p1
def g12p3 : Pt := nav [1, 0] g12p2
def g12p4 : Pt := nav [2, 0, 0] g12p2
def g12p6 : Pt := nav [0, 0, 0] g12p4
def g12p7 : Pt := nav [0, 0, 0, 0] g12p6
def g12p8 : Pt := nav [0, 0, 0, 0] g12p7
def g12p9 : Pt := nav [0, 0, 0] g12p8
def g12p10 : Pt := nav [0, 0] g12p9
def g12p11 : Pt := nav [1, 0, 0, 0, 0] g12p10
def g12p12 : Pt := nav [2, 0, 0] g12p10
def g12p13 : Pt := nav [0, 0, 0, 0] g12p11
def g12p14 : Pt := nav [0, 0, 0, 0] g12p12
def g12p15 : Pt := nav [0, 0] g12p13
def g12p16 : Pt := nav [0, 0] g12p14
def g12p17 : Pt := nav [1, 0] g12p15
def g12p18 : Pt := nav [2, 0, 0] g12p15
def g12p20 : Pt := nav [2, 0, 0, 0] g12p16
def g12p21 : Pt := nav [0, 0, 0] g12p18
def g12p22 : Pt := nav [0, 0, 0, 0] g12p20
def g12p23 : Pt := nav [0, 0, 0, 0] g12p21
def g12p24 : Pt := nav [0, 0, 0] g12p22
def g12p25 : Pt := nav [0, 0] g12p23
def g12p26 : Pt := nav [0, 0] g12p24
def g12p27 : Pt := nav [1] g12p25
def g12p28 : Pt := nav [2, 0] g12p25
def g12p29 : Pt := nav [1, 0, 0, 0, 0] g12p26
def g12p30 : Pt := nav [2, 0, 0] g12p26
def g12p31 : Pt := nav [0, 0] g12p28
def g12p33 : Pt := nav [1] g12p31
def g12p34 : Pt := nav [2, 0] g12p31
def g12p37 : Pt := nav [0, 0] g12p34
def g12p38 : Pt := nav [1] g12p37
def g12p39 : Pt := nav [2] g12p37
def g12_l19 (k : Nat)  (x2_2 : ((List Int) × Int)) (n : Nat) : (List Int) → Int → Option Bool :=
 Nat.rec (motive := fun _ => (List Int) → Int → Option Bool) (fun _ _ => none) (fun _ ih => fun (y19_0 : (List Int)) (y19_1 : Int) => if (decide (y19_1 < (x2_2.1.length : Int))) then ((nthL x2_2.1 y19_1).bind fun x9_2 => (idxO y19_0 y19_1).bind fun x9_6 => (getO y19_0 x9_6).bind fun x9_7 => if (!decide (x9_2 = x9_7)) then (some false) else (ih y19_0 (fW .i64 (y19_1 + 1)))) else ((g36 k).bind fun x10_0 => some x10_0)) n
theorem g12_l19_s (k : Nat)  (x2_2 : ((List Int) × Int)) (n : Nat) (y19_0 : (List Int)) (y19_1 : Int) : g12_l19 k x2_2 (n + 1) y19_0 y19_1 = (if (decide (y19_1 < (x2_2.1.length : Int))) then ((nthL x2_2.1 y19_1).bind fun x9_2 => (idxO y19_0 y19_1).bind fun x9_6 => (getO y19_0 x9_6).bind fun x9_7 => if (!decide (x9_2 = x9_7)) then (some false) else ((g12_l19 k x2_2 n) y19_0 (fW .i64 (y19_1 + 1)))) else ((g36 k).bind fun x10_0 => some x10_0)) := rfl
theorem g12_l19_ok (k : Nat)  (x2_2 : ((List Int) × Int))  : ∀ (n : Nat) (y19_0 : (List Int)) (y19_1 : Int), Ok X12 g12p22 [(6, .own 0 (y19_0).length 1), (10, .vec (x2_2.1).length 1 ((x2_2.1).flatMap e3)), (12, .int .i64 y19_1)] (mkH [⟨(y19_0).flatMap e3, 0, false⟩]) (g12_l19 k x2_2 n y19_0 y19_1)
 | 0, _, _ => ok_none
 | n + 1, y19_0, y19_1 => by
  have ih := g12_l19_ok k x2_2 n
  rw [g12_l19_s]
  refine ok_ent (p' := nav [0] g12p22) (by kernel_rfl) ?_
  let E36 : Env := [(122, .bool (decide (y19_1 < (x2_2.1.length : Int)))), (121, .int .i64 (x2_2.1.length : Int)), (120, .vec (x2_2.1).length 1 ((x2_2.1).flatMap e3)), (119, .int .i64 y19_1), (6, .own 0 (y19_0).length 1), (10, .vec (x2_2.1).length 1 ((x2_2.1).flatMap e3)), (12, .int .i64 y19_1)]
  refine oR 8 (p' := g12p26) (eE := E36) (H' := (mkH [⟨(y19_0).flatMap e3, 0, false⟩])) (by kernel_rfl) ?_
  refine oS 122 (b := decide (y19_1 < (x2_2.1.length : Int))) (by kernel_rfl) (fun hb => ?_) (fun hb => ?_)
  ·refine oR 5 (p' := g12p29) (eE := ((122, .bool true) :: E36)) (H' := (mkH [⟨(y19_0).flatMap e3, 0, false⟩])) (by kernel_rfl) ?_
   refine ok_bind (fun x9_2 hx9_2 => ?_)
   refine ok_bind (fun x9_6 hx9_6 => ?_)
   refine ok_bind (fun x9_7 hx9_7 => ?_)
   let E37 : Env := [(126, .int .i64 y19_1), (125, .vec (x2_2.1).length 1 ((x2_2.1).flatMap e3)), (122, .bool true), (122, .bool (decide (y19_1 < (x2_2.1.length : Int)))), (121, .int .i64 (x2_2.1.length : Int)), (120, .vec (x2_2.1).length 1 ((x2_2.1).flatMap e3)), (119, .int .i64 y19_1), (6, .own 0 (y19_0).length 1), (10, .vec (x2_2.1).length 1 ((x2_2.1).flatMap e3)), (12, .int .i64 y19_1)]
   let E38 : Env := ((131, .ptr 0 ((y19_0).length * 1) (x9_6 * 1)) :: (130, .int .i64 y19_1) :: (129, .own 0 (y19_0).length 1) :: (128, .int .i64 x9_2) :: (127, .vptr [.int .i64 x9_2]) :: E37)
   refine ok_draw (p' := nav [0] g12p29) (eE := ((133, .bool (!decide (x9_2 = x9_7))) :: (132, .int .i64 x9_7) :: E38)) (H' := (mkH [⟨(y19_0).flatMap e3, 0, false⟩])) (hs := []) [(0, 0, 0), (0, 0, 0), (3, 0, 0), (7, 0, 0), (0, 0, 0), (0, 0, 0), (48, 0, 0), (112, 0, 0), (255, 0, 0)] (by kernel_rfl) (by kernel_rfl) (by kernel_rfl) (opsD_run 2 (l' := (opsAt g12p29).toList.drop 2) (eE := E37) (H' := (mkH [⟨(y19_0).flatMap e3, 0, false⟩])) (hs := []) (by kernel_rfl) (opsD_chk (l' := (opsAt g12p29).toList.drop 3) (eE := ((127, .vptr [.int .i64 x9_2]) :: E37)) (hs := []) (x := x9_2) (fun (x9_2 : Int) => (.vptr [.int .i64 x9_2], (mkH [⟨(y19_0).flatMap e3, 0, false⟩]))) (vidxH (sz := 1) e3_len (by kernel_rfl)) hx9_2 (by kernel_rfl) (opsD_run 3 (l' := (opsAt g12p29).toList.drop 6) (eE := ((130, .int .i64 y19_1) :: (129, .own 0 (y19_0).length 1) :: (128, .int .i64 x9_2) :: (127, .vptr [.int .i64 x9_2]) :: E37)) (H' := (mkH [⟨(y19_0).flatMap e3, 0, false⟩])) (hs := []) (by kernel_rfl) (opsD_chk (l' := (opsAt g12p29).toList.drop 7) (eE := E38) (hs := []) (x := x9_6) (fun (x9_6 : Nat) => (.ptr 0 ((y19_0).length * 1) (x9_6 * 1), (mkH [⟨(y19_0).flatMap e3, 0, false⟩]))) (oidxH (sz := 1) (by kernel_rfl)) hx9_6 (by kernel_rfl) (opsD_chk (l' := (opsAt g12p29).toList.drop 8) (eE := ((132, .int .i64 x9_7) :: E38)) (hs := []) (x := x9_7) (fun (x9_7 : Int) => (.int .i64 x9_7, (mkH [⟨(y19_0).flatMap e3, 0, false⟩]))) (oloadH (v := v3) (fun _ => rfl) [⟨(y19_0).flatMap e3, 0, false⟩] 0 _ rfl rfl (by first | exact Nat.le_refl _ | exact Nat.zero_le _) (by kernel_rfl)) hx9_7 (by kernel_rfl) (opsD_run 1 (l' := (opsAt g12p29).toList.drop 9) (eE := ((133, .bool (!decide (x9_2 = x9_7))) :: (132, .int .i64 x9_7) :: E38)) (H' := (mkH [⟨(y19_0).flatMap e3, 0, false⟩])) (hs := []) (by kernel_rfl) (.nil))))))) (by kernel_rfl) (by kernel_rfl) (by kernel_rfl) ?_
   refine oS 133 (b := !decide (x9_2 = x9_7)) (by kernel_rfl) (fun hb => ?_) (fun hb => ?_)
   ·refine oR 6 (p' := .fin) (eE := ((4, .bool false) :: (133, .bool true) :: (133, .bool (!decide (x9_2 = x9_7))) :: (132, .int .i64 x9_7) :: E38)) (H' := (mkH [⟨(y19_0).flatMap e3, 0, false⟩])) (by kernel_rfl) ?_
    exact oT (r := false) (xs := [.bool false]) (v := .bool false) (by kernel_rfl) (by kernel_rfl) (by kernel_rfl) (.pures (by kernel_rfl)) (by kernel_rfl)
   ·let E39 : Env := ((12, .int .i64 (fW .i64 (y19_1 + 1))) :: (124, .int .i64 (fW .i64 (y19_1 + 1))) :: (123, .int .i64 y19_1) :: (133, .bool false) :: (133, .bool (!decide (x9_2 = x9_7))) :: (132, .int .i64 x9_7) :: E38)
    refine oR 7 (p' := g12p22) (eE := E39) (H' := (mkH [⟨(y19_0).flatMap e3, 0, false⟩])) (by kernel_rfl) ?_
    refine oK [6, 10, 12] (eE := [(6, .own 0 (y19_0).length 1), (10, .vec (x2_2.1).length 1 ((x2_2.1).flatMap e3)), (12, .int .i64 (fW .i64 (y19_1 + 1)))]) (by kernel_rfl) ?_
    exact ih y19_0 (fW .i64 (y19_1 + 1))
  ·refine oR 4 (p' := (atN 0 (ctl1 g12p30))) (eE := ((122, .bool false) :: E36)) (H' := (mkH [⟨(y19_0).flatMap e3, 0, false⟩])) (by kernel_rfl) ?_
   refine oC (fun (x10_0 : Bool) => .bool x10_0) (atN 1 (ctl1 g12p30)) (fun x10_0 => ((134, .bool x10_0) :: (122, .bool false) :: E36)) (fi := 36) (args := []) (by kernel_rfl) (by kernel_rfl) (fun _ => by kernel_rfl) (fun r h => g36_ok k  r h) (fun _ => by kernel_rfl) (fun x10_0 hx10_0 => ?_)
   refine oR 3 (p' := .fin) (eE := ((4, .bool x10_0) :: (134, .bool x10_0) :: (122, .bool false) :: E36)) (H' := (mkH [⟨(y19_0).flatMap e3, 0, false⟩])) (by kernel_rfl) ?_
   exact oT (r := x10_0) (xs := [.bool x10_0]) (v := .bool x10_0) (by kernel_rfl) (by kernel_rfl) (by kernel_rfl) (.pures (by kernel_rfl)) (by kernel_rfl)
def g12_l12 (k : Nat)  (a0 : (List Int)) (a1 : (List Int)) (n : Nat) : (List Nat) → Int → (List Int) → Option Bool :=
 Nat.rec (motive := fun _ => (List Nat) → Int → (List Int) → Option Bool) (fun _ _ _ => none) (fun _ ih => fun (y12_0 : (List Nat)) (y12_1 : Int) (y12_2 : (List Int)) => if (decide (y12_1 < (a0.length : Int))) then ((nthL a0 y12_1).bind fun x1_2 => jn (fun (z13 : Bool × (List Nat) × Int × (List Int)) => jn (fun (z15 : (List Nat) × (List Int) × Int) => ih z15.1 (fW .i64 (z15.2.2 + 1)) z15.2.1) (fun j15 => if z13.1 then (j15 (z13.2.1, z13.2.2.2, z13.2.2.1)) else ((appS 8 z13.2.2.2 ([fW .i64 ((fW .u64 x1_2).tmod 1114112)] : List Int)).bind fun x3_3 => (nthL a1 z13.2.2.1).bind fun x4_2 => jn (fun (z16 : Bool × Int × (List Nat)) => if z16.1 then ((catS z16.2.2 (utf (fW .i32 (fW .i64 ((fW .u64 x1_2).tmod 1114112))))).bind fun x5_4 => j15 (x5_4, x3_3, z16.2.1)) else (jn (fun (z17 : Bool × (List Nat) × Int) => if z17.1 then ((catS z17.2.1 ([92, 120] : List Nat)).bind fun x6_1 => (g48 k (fW .i64 ((fW .u64 x1_2).tmod 1114112)) (2 : Int)).bind fun x6_3 => (catS x6_1 x6_3).bind fun x6_4 => j15 (x6_4, x3_3, z17.2.2)) else (jn (fun (z18 : Bool × (List Nat) × Int) => if z18.1 then ((catS z18.2.1 ([92] : List Nat)).bind fun x7_1 => (g49 k (fW .i64 ((fW .u64 x1_2).tmod 1114112))).bind fun x7_3 => (catS x7_1 x7_3).bind fun x7_4 => j15 (x7_4, x3_3, z18.2.2)) else ((catS z18.2.1 ([92, 120, 123] : List Nat)).bind fun x8_1 => (g48 k (fW .i64 ((fW .u64 x1_2).tmod 1114112)) (6 : Int)).bind fun x8_3 => (catS x8_1 x8_3).bind fun x8_4 => (catS x8_4 ([125] : List Nat)).bind fun x8_5 => j15 (x8_5, x3_3, z18.2.2))) (fun j18 => if (decide (fW .i64 ((fW .u64 x4_2).tmod 4) = 2)) then (j18 (decide (fW .i64 ((fW .u64 x1_2).tmod 1114112) < 512), z17.2.1, z17.2.2)) else (j18 (false, z17.2.1, z17.2.2))))) (fun j17 => if (decide (fW .i64 ((fW .u64 x4_2).tmod 4) = 1)) then (j17 (decide (fW .i64 ((fW .u64 x1_2).tmod 1114112) < 256), z16.2.2, z16.2.1)) else (j17 (false, z16.2.2, z16.2.1))))) (fun j16 => if (decide (fW .i64 ((fW .u64 x4_2).tmod 4) = 0)) then (if (decide (32 ≤ fW .i64 ((fW .u64 x1_2).tmod 1114112))) then (if (!decide (fW .i64 ((fW .u64 x1_2).tmod 1114112) = 34)) then (j16 (!decide (fW .i64 ((fW .u64 x1_2).tmod 1114112) = 92), z13.2.2.1, z13.2.1)) else (j16 (false, z13.2.2.1, z13.2.1))) else (j16 (false, z13.2.2.1, z13.2.1))) else (j16 (false, z13.2.2.1, z13.2.1)))))) (fun j13 => if (decide (55296 ≤ fW .i64 ((fW .u64 x1_2).tmod 1114112))) then (j13 (decide (fW .i64 ((fW .u64 x1_2).tmod 1114112) ≤ 57343), y12_0, y12_1, y12_2)) else (j13 (false, y12_0, y12_1, y12_2)))) else ((catS y12_0 ([34] : List Nat)).bind fun x2_1 => (g43 k x2_1).bind fun x2_2 => jn (fun (z14 : Bool × (List Int)) => if z14.1 then (some false) else (g12_l19 k x2_2 k z14.2 0)) (fun j14 => if (!decide (x2_2.2 = 0)) then (j14 (true, y12_2)) else (j14 (!decide ((x2_2.1.length : Int) = (y12_2.length : Int)), y12_2))))) n
theorem g12_l12_s (k : Nat)  (a0 : (List Int)) (a1 : (List Int)) (n : Nat) (y12_0 : (List Nat)) (y12_1 : Int) (y12_2 : (List Int)) : g12_l12 k a0 a1 (n + 1) y12_0 y12_1 y12_2 = (if (decide (y12_1 < (a0.length : Int))) then ((nthL a0 y12_1).bind fun x1_2 => jn (fun (z13 : Bool × (List Nat) × Int × (List Int)) => jn (fun (z15 : (List Nat) × (List Int) × Int) => (g12_l12 k a0 a1 n) z15.1 (fW .i64 (z15.2.2 + 1)) z15.2.1) (fun j15 => if z13.1 then (j15 (z13.2.1, z13.2.2.2, z13.2.2.1)) else ((appS 8 z13.2.2.2 ([fW .i64 ((fW .u64 x1_2).tmod 1114112)] : List Int)).bind fun x3_3 => (nthL a1 z13.2.2.1).bind fun x4_2 => jn (fun (z16 : Bool × Int × (List Nat)) => if z16.1 then ((catS z16.2.2 (utf (fW .i32 (fW .i64 ((fW .u64 x1_2).tmod 1114112))))).bind fun x5_4 => j15 (x5_4, x3_3, z16.2.1)) else (jn (fun (z17 : Bool × (List Nat) × Int) => if z17.1 then ((catS z17.2.1 ([92, 120] : List Nat)).bind fun x6_1 => (g48 k (fW .i64 ((fW .u64 x1_2).tmod 1114112)) (2 : Int)).bind fun x6_3 => (catS x6_1 x6_3).bind fun x6_4 => j15 (x6_4, x3_3, z17.2.2)) else (jn (fun (z18 : Bool × (List Nat) × Int) => if z18.1 then ((catS z18.2.1 ([92] : List Nat)).bind fun x7_1 => (g49 k (fW .i64 ((fW .u64 x1_2).tmod 1114112))).bind fun x7_3 => (catS x7_1 x7_3).bind fun x7_4 => j15 (x7_4, x3_3, z18.2.2)) else ((catS z18.2.1 ([92, 120, 123] : List Nat)).bind fun x8_1 => (g48 k (fW .i64 ((fW .u64 x1_2).tmod 1114112)) (6 : Int)).bind fun x8_3 => (catS x8_1 x8_3).bind fun x8_4 => (catS x8_4 ([125] : List Nat)).bind fun x8_5 => j15 (x8_5, x3_3, z18.2.2))) (fun j18 => if (decide (fW .i64 ((fW .u64 x4_2).tmod 4) = 2)) then (j18 (decide (fW .i64 ((fW .u64 x1_2).tmod 1114112) < 512), z17.2.1, z17.2.2)) else (j18 (false, z17.2.1, z17.2.2))))) (fun j17 => if (decide (fW .i64 ((fW .u64 x4_2).tmod 4) = 1)) then (j17 (decide (fW .i64 ((fW .u64 x1_2).tmod 1114112) < 256), z16.2.2, z16.2.1)) else (j17 (false, z16.2.2, z16.2.1))))) (fun j16 => if (decide (fW .i64 ((fW .u64 x4_2).tmod 4) = 0)) then (if (decide (32 ≤ fW .i64 ((fW .u64 x1_2).tmod 1114112))) then (if (!decide (fW .i64 ((fW .u64 x1_2).tmod 1114112) = 34)) then (j16 (!decide (fW .i64 ((fW .u64 x1_2).tmod 1114112) = 92), z13.2.2.1, z13.2.1)) else (j16 (false, z13.2.2.1, z13.2.1))) else (j16 (false, z13.2.2.1, z13.2.1))) else (j16 (false, z13.2.2.1, z13.2.1)))))) (fun j13 => if (decide (55296 ≤ fW .i64 ((fW .u64 x1_2).tmod 1114112))) then (j13 (decide (fW .i64 ((fW .u64 x1_2).tmod 1114112) ≤ 57343), y12_0, y12_1, y12_2)) else (j13 (false, y12_0, y12_1, y12_2)))) else ((catS y12_0 ([34] : List Nat)).bind fun x2_1 => (g43 k x2_1).bind fun x2_2 => jn (fun (z14 : Bool × (List Int)) => if z14.1 then (some false) else (g12_l19 k x2_2 k z14.2 0)) (fun j14 => if (!decide (x2_2.2 = 0)) then (j14 (true, y12_2)) else (j14 (!decide ((x2_2.1.length : Int) = (y12_2.length : Int)), y12_2))))) := rfl
end
end Go.Proofs.Ytabhkocokojddaa.Am
