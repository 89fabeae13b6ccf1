/- LawLitWhole, part 3: whatever the input, the law comes out true: our texts, joined by a tool, without what the claim does not name. -/
import Derived.Test.YtabhkocokojddaaPkLitWhole2
import Derived.Below
import Derived.Test.YtabhkocokojddaaRows
import Derived.WalkKit
import Derived.ProofKit
import Derived.OpenShut
import Derived.ShutString
import Derived.ChangeOld
import Derived.SizedLaws
set_option maxRecDepth 100000
set_option linter.unusedVariables false
namespace Go.Proofs.Ytabhkocokojddaa.Am
noncomputable section
open Go
theorem g79_l6_ok (k : Nat)  (a0 : (List Nat)) (a1 : Int) (z5 : Int × Int × Int)  : ∀ (n : Nat) (y6_0 : Int) (y6_1 : Int), Ok X79 g79p6 [(0, .str a0), (1, .int .i64 a1), (6, .int .i64 z5.1), (7, .int .i64 z5.2.1), (8, .int .i64 z5.2.2), (9, .int .i64 y6_0), (10, .int .i64 y6_1)] (mkH []) (g79_l6 k a0 a1 z5 n y6_0 y6_1)
 | 0, _, _ => ok_none
 | n + 1, y6_0, y6_1 => by
  have ih := g79_l6_ok k a0 a1 z5 n
  rw [g79_l6_s]
  refine ok_ent (p' := nav [0] g79p6) (by kernel_rfl) ?_
  let E3 : Env := [(29, .bool (decide (y6_1 < z5.2.1))), (28, .bool (decide (y6_1 < z5.2.1))), (27, .int .i64 z5.2.1), (26, .int .i64 y6_1), (0, .str a0), (1, .int .i64 a1), (6, .int .i64 z5.1), (7, .int .i64 z5.2.1), (8, .int .i64 z5.2.2), (9, .int .i64 y6_0), (10, .int .i64 y6_1)]
  refine oR 7 (p' := (atN 4 (ctl1 g79p7))) (eE := E3) (H' := (mkH [])) (by kernel_rfl) ?_
  refine oJ (f := fun (z7 : Bool × Int × Int) => if z7.1 then ((nthS a0 (fW .i64 (z5.1 + z7.2.2))).bind fun x2_6 => (g75 k x2_6).bind fun x2_7 => (g79_l6 k a0 a1 z5 n) (orI .i64 (shlC .i64 z7.2.1 4) x2_7) (fW .i64 (z7.2.2 + 1))) else (jn (fun (z8 : Int × Int × Bool) => if z8.2.2 then (some (((-1) : Int), (0 : Int))) else (some (z8.1, fW .i64 (fW .i64 (z8.2.1 + z5.2.2) - a1)))) (fun j8 => if (decide (z5.2.2 = 0)) then (if (decide (z7.2.2 < 2)) then (j8 (z7.2.1, fW .i64 (z5.1 + z7.2.2), true)) else (if (decide (z7.2.2 < 1)) then (j8 (z7.2.1, fW .i64 (z5.1 + z7.2.2), true)) else (if (decide (z5.2.2 = 1)) then (if (decide ((a0.length : Int) ≤ fW .i64 (z5.1 + z7.2.2))) then (j8 (z7.2.1, fW .i64 (z5.1 + z7.2.2), true)) else ((nthS a0 (fW .i64 (z5.1 + z7.2.2))).bind fun x3_21 => if (!decide (x3_21 = 125)) then (j8 (z7.2.1, fW .i64 (z5.1 + z7.2.2), true)) else ((g94 k z7.2.1).bind fun x3_28 => j8 (z7.2.1, fW .i64 (z5.1 + z7.2.2), eqL x3_28 [])))) else ((g94 k z7.2.1).bind fun x3_28 => j8 (z7.2.1, fW .i64 (z5.1 + z7.2.2), eqL x3_28 []))))) else (if (decide (z7.2.2 < 1)) then (j8 (z7.2.1, fW .i64 (z5.1 + z7.2.2), true)) else (if (decide (z5.2.2 = 1)) then (if (decide ((a0.length : Int) ≤ fW .i64 (z5.1 + z7.2.2))) then (j8 (z7.2.1, fW .i64 (z5.1 + z7.2.2), true)) else ((nthS a0 (fW .i64 (z5.1 + z7.2.2))).bind fun x3_21 => if (!decide (x3_21 = 125)) then (j8 (z7.2.1, fW .i64 (z5.1 + z7.2.2), true)) else ((g94 k z7.2.1).bind fun x3_28 => j8 (z7.2.1, fW .i64 (z5.1 + z7.2.2), eqL x3_28 [])))) else ((g94 k z7.2.1).bind fun x3_28 => j8 (z7.2.1, fW .i64 (z5.1 + z7.2.2), eqL x3_28 []))))))) g79p8 (fun (z7 : Bool × Int × Int) => [(0, .str a0), (1, .int .i64 a1), (6, .int .i64 z5.1), (7, .int .i64 z5.2.1), (8, .int .i64 z5.2.2), (9, .int .i64 z7.2.1), (10, .int .i64 z7.2.2), (45, .bool z7.1)]) (fun (z7 : Bool × Int × Int) => (mkH [])) (fun z7 => ?_) (fun j7 hj7 => ?_)
  ·refine oS 45 (b := z7.1) (by kernel_rfl) (fun hb => ?_) (fun hb => ?_)
   ·let E4 : Env := [(51, .int .i64 (fW .i64 (z5.1 + z7.2.2))), (50, .int .i64 z7.2.2), (49, .int .i64 z5.1), (48, .str a0), (47, .int .i64 (shlC .i64 z7.2.1 4)), (46, .int .i64 z7.2.1), (45, .bool true), (0, .str a0), (1, .int .i64 a1), (6, .int .i64 z5.1), (7, .int .i64 z5.2.1), (8, .int .i64 z5.2.2), (9, .int .i64 z7.2.1), (10, .int .i64 z7.2.2), (45, .bool z7.1)]
    refine oR 11 (p' := (atN 6 (ctl1 g79p9))) (eE := E4) (H' := (mkH [])) (by kernel_rfl) ?_
    refine oH (fun (x2_6 : Int) => (.int .u8 x2_6, (mkH []))) (atN 7 (ctl1 g79p9)) (fun x2_6 => ((52, .int .u8 x2_6) :: E4)) (idxH (by kernel_rfl)) (fun _ => by kernel_rfl) (fun x2_6 hx2_6 => ?_)
    refine oC (fun (x2_7 : Int) => .int .i64 x2_7) (atN 8 (ctl1 g79p9)) (fun x2_7 => ((53, .int .i64 x2_7) :: (52, .int .u8 x2_6) :: E4)) (fi := 75) (args := [.int .u8 x2_6]) (by kernel_rfl) (by kernel_rfl) (fun _ => by kernel_rfl) (fun r h => g75_ok k x2_6 r h) (fun _ => by kernel_rfl) (fun x2_7 hx2_7 => ?_)
    refine oR 3 (p' := g79p11) (eE := ((9, .int .i64 (orI .i64 (shlC .i64 z7.2.1 4) x2_7)) :: (54, .int .i64 (orI .i64 (shlC .i64 z7.2.1 4) x2_7)) :: (53, .int .i64 x2_7) :: (52, .int .u8 x2_6) :: E4)) (H' := (mkH [])) (by kernel_rfl) ?_
    refine oK [0, 1, 6, 7, 8, 9, 10] (eE := [(0, .str a0), (1, .int .i64 a1), (6, .int .i64 z5.1), (7, .int .i64 z5.2.1), (8, .int .i64 z5.2.2), (9, .int .i64 (orI .i64 (shlC .i64 z7.2.1 4) x2_7)), (10, .int .i64 z7.2.2)]) (by kernel_rfl) ?_
    let E5 : Env := [(10, .int .i64 (fW .i64 (z7.2.2 + 1))), (56, .int .i64 (fW .i64 (z7.2.2 + 1))), (55, .int .i64 z7.2.2), (0, .str a0), (1, .int .i64 a1), (6, .int .i64 z5.1), (7, .int .i64 z5.2.1), (8, .int .i64 z5.2.2), (9, .int .i64 (orI .i64 (shlC .i64 z7.2.1 4) x2_7)), (10, .int .i64 z7.2.2)]
    refine oR 5 (p' := g79p6) (eE := E5) (H' := (mkH [])) (by kernel_rfl) ?_
    refine oK [0, 1, 6, 7, 8, 9, 10] (eE := [(0, .str a0), (1, .int .i64 a1), (6, .int .i64 z5.1), (7, .int .i64 z5.2.1), (8, .int .i64 z5.2.2), (9, .int .i64 (orI .i64 (shlC .i64 z7.2.1 4) x2_7)), (10, .int .i64 (fW .i64 (z7.2.2 + 1)))]) (by kernel_rfl) ?_
    exact ih (orI .i64 (shlC .i64 z7.2.1 4) x2_7) (fW .i64 (z7.2.2 + 1))
   ·let E6 : Env := [(11, .int .i64 (fW .i64 (z5.1 + z7.2.2))), (59, .int .i64 (fW .i64 (z5.1 + z7.2.2))), (58, .int .i64 z7.2.2), (57, .int .i64 z5.1), (45, .bool false), (0, .str a0), (1, .int .i64 a1), (6, .int .i64 z5.1), (7, .int .i64 z5.2.1), (8, .int .i64 z5.2.2), (9, .int .i64 z7.2.1), (10, .int .i64 z7.2.2), (45, .bool z7.1)]
    refine oR 11 (p' := g79p12) (eE := E6) (H' := (mkH [])) (by kernel_rfl) ?_
    refine oK [0, 1, 8, 9, 10, 11] (eE := [(0, .str a0), (1, .int .i64 a1), (8, .int .i64 z5.2.2), (9, .int .i64 z7.2.1), (10, .int .i64 z7.2.2), (11, .int .i64 (fW .i64 (z5.1 + z7.2.2)))]) (by kernel_rfl) ?_
    let E7 : Env := [(62, .bool (decide (z5.2.2 = 0))), (61, .bool (decide (z5.2.2 = 0))), (60, .int .i64 z5.2.2), (0, .str a0), (1, .int .i64 a1), (8, .int .i64 z5.2.2), (9, .int .i64 z7.2.1), (10, .int .i64 z7.2.2), (11, .int .i64 (fW .i64 (z5.1 + z7.2.2)))]
    refine oR 4 (p' := (atN 3 (ctl1 g79p12))) (eE := E7) (H' := (mkH [])) (by kernel_rfl) ?_
    refine oJ (f := fun (z8 : Int × Int × Bool) => if z8.2.2 then (some (((-1) : Int), (0 : Int))) else (some (z8.1, fW .i64 (fW .i64 (z8.2.1 + z5.2.2) - a1)))) g79p13 (fun (z8 : Int × Int × Bool) => [(1, .int .i64 a1), (8, .int .i64 z5.2.2), (9, .int .i64 z8.1), (11, .int .i64 z8.2.1), (90, .bool z8.2.2)]) (fun (z8 : Int × Int × Bool) => (mkH [])) (fun z8 => ?_) (fun j8 hj8 => ?_)
    ·refine oS 90 (b := z8.2.2) (by kernel_rfl) (fun hb => ?_) (fun hb => ?_)
     ·let E8 : Env := [(5, .int .i64 0), (4, .int .i64 (-1)), (90, .bool true), (1, .int .i64 a1), (8, .int .i64 z5.2.2), (9, .int .i64 z8.1), (11, .int .i64 z8.2.1), (90, .bool z8.2.2)]
      refine oR 7 (p' := .fin) (eE := E8) (H' := (mkH [])) (by kernel_rfl) ?_
      exact oT (r := (((-1) : Int), (0 : Int))) (xs := [.int .i64 (-1), .int .i64 0]) (v := .tuple [.int .i64 (-1), .int .i64 0]) (by kernel_rfl) (by kernel_rfl) (by kernel_rfl) (.pures (by kernel_rfl)) (by kernel_rfl)
     ·let E9 : Env := [(5, .int .i64 (fW .i64 (fW .i64 (z8.2.1 + z5.2.2) - a1))), (4, .int .i64 z8.1), (96, .int .i64 (fW .i64 (fW .i64 (z8.2.1 + z5.2.2) - a1))), (95, .int .i64 a1), (94, .int .i64 (fW .i64 (z8.2.1 + z5.2.2))), (93, .int .i64 z5.2.2), (92, .int .i64 z8.2.1), (91, .int .i64 z8.1), (90, .bool false), (1, .int .i64 a1), (8, .int .i64 z5.2.2), (9, .int .i64 z8.1), (11, .int .i64 z8.2.1), (90, .bool z8.2.2)]
      refine oR 14 (p' := .fin) (eE := E9) (H' := (mkH [])) (by kernel_rfl) ?_
      exact oT (r := (z8.1, fW .i64 (fW .i64 (z8.2.1 + z5.2.2) - a1))) (xs := [.int .i64 z8.1, .int .i64 (fW .i64 (fW .i64 (z8.2.1 + z5.2.2) - a1))]) (v := .tuple [.int .i64 z8.1, .int .i64 (fW .i64 (fW .i64 (z8.2.1 + z5.2.2) - a1))]) (by kernel_rfl) (by kernel_rfl) (by kernel_rfl) (.pures (by kernel_rfl)) (by kernel_rfl)
    ·refine oS 62 (b := decide (z5.2.2 = 0)) (by kernel_rfl) (fun hb => ?_) (fun hb => ?_)
     ·let E10 : Env := ((66, .bool (decide (z7.2.2 < 2))) :: (65, .bool (decide (z7.2.2 < 2))) :: (64, .bool (decide (z7.2.2 < 2))) :: (63, .int .i64 z7.2.2) :: (62, .bool true) :: E7)
      refine oR 4 (p' := (atN 7 (ctl1 g79p12))) (eE := E10) (H' := (mkH [])) (by kernel_rfl) ?_
      refine oS 66 (b := decide (z7.2.2 < 2)) (by kernel_rfl) (fun hb => ?_) (fun hb => ?_)
      ·let E11 : Env := ((90, .bool true) :: (89, .tuple []) :: (88, .tuple []) :: (87, .tuple []) :: (86, .bool true) :: (85, .bool true) :: (84, .tuple []) :: (83, .tuple []) :: (82, .tuple []) :: (81, .tuple []) :: (80, .tuple []) :: (79, .tuple []) :: (78, .tuple []) :: (77, .tuple []) :: (76, .tuple []) :: (75, .tuple []) :: (74, .tuple []) :: (73, .tuple []) :: (72, .tuple []) :: (71, .tuple []) :: (70, .bool true) :: (69, .bool true) :: (68, .tuple []) :: (67, .tuple []) :: (66, .bool true) :: E10)
       refine oR 25 (p' := g79p13) (eE := E11) (H' := (mkH [])) (by kernel_rfl) ?_
       refine oK [1, 8, 9, 11, 90] (eE := [(1, .int .i64 a1), (8, .int .i64 z5.2.2), (9, .int .i64 z7.2.1), (11, .int .i64 (fW .i64 (z5.1 + z7.2.2))), (90, .bool true)]) (by kernel_rfl) ?_
       exact hj8 (z7.2.1, fW .i64 (z5.1 + z7.2.2), true)
      ·let E12 : Env := ((70, .bool (decide (z7.2.2 < 1))) :: (69, .bool (decide (z7.2.2 < 1))) :: (68, .bool (decide (z7.2.2 < 1))) :: (67, .int .i64 z7.2.2) :: (66, .bool false) :: E10)
       refine oR 4 (p' := (atN 11 (ctl1 g79p12))) (eE := E12) (H' := (mkH [])) (by kernel_rfl) ?_
       refine oS 70 (b := decide (z7.2.2 < 1)) (by kernel_rfl) (fun hb => ?_) (fun hb => ?_)
       ·let E13 : Env := ((90, .bool true) :: (89, .tuple []) :: (88, .tuple []) :: (87, .tuple []) :: (86, .bool true) :: (85, .bool true) :: (84, .tuple []) :: (83, .tuple []) :: (82, .tuple []) :: (81, .tuple []) :: (80, .tuple []) :: (79, .tuple []) :: (78, .tuple []) :: (77, .tuple []) :: (76, .tuple []) :: (75, .tuple []) :: (74, .tuple []) :: (73, .tuple []) :: (72, .tuple []) :: (71, .tuple []) :: (70, .bool true) :: E12)
        refine oR 21 (p' := g79p13) (eE := E13) (H' := (mkH [])) (by kernel_rfl) ?_
        refine oK [1, 8, 9, 11, 90] (eE := [(1, .int .i64 a1), (8, .int .i64 z5.2.2), (9, .int .i64 z7.2.1), (11, .int .i64 (fW .i64 (z5.1 + z7.2.2))), (90, .bool true)]) (by kernel_rfl) ?_
        exact hj8 (z7.2.1, fW .i64 (z5.1 + z7.2.2), true)
       ·refine oR 3 (p' := (atN 14 (ctl1 g79p12))) (eE := ((73, .bool (decide (z5.2.2 = 1))) :: (72, .bool (decide (z5.2.2 = 1))) :: (71, .int .i64 z5.2.2) :: (70, .bool false) :: E12)) (H' := (mkH [])) (by kernel_rfl) ?_
        refine oS 73 (b := decide (z5.2.2 = 1)) (by kernel_rfl) (fun hb => ?_) (fun hb => ?_)
        ·let E14 : Env := ((78, .bool (decide ((a0.length : Int) ≤ fW .i64 (z5.1 + z7.2.2)))) :: (77, .bool (decide ((a0.length : Int) ≤ fW .i64 (z5.1 + z7.2.2)))) :: (76, .int .i64 (a0.length : Int)) :: (75, .str a0) :: (74, .int .i64 (fW .i64 (z5.1 + z7.2.2))) :: (73, .bool true) :: (73, .bool (decide (z5.2.2 = 1))) :: (72, .bool (decide (z5.2.2 = 1))) :: (71, .int .i64 z5.2.2) :: (70, .bool false) :: E12)
         refine oR 5 (p' := (atN 19 (ctl1 g79p12))) (eE := E14) (H' := (mkH [])) (by kernel_rfl) ?_
         refine oS 78 (b := decide ((a0.length : Int) ≤ fW .i64 (z5.1 + z7.2.2))) (by kernel_rfl) (fun hb => ?_) (fun hb => ?_)
         ·let E15 : Env := ((90, .bool true) :: (89, .tuple []) :: (88, .tuple []) :: (87, .tuple []) :: (86, .bool true) :: (85, .bool true) :: (84, .bool true) :: (83, .bool true) :: (82, .tuple []) :: (81, .tuple []) :: (80, .tuple []) :: (79, .tuple []) :: (78, .bool true) :: E14)
          refine oR 13 (p' := g79p13) (eE := E15) (H' := (mkH [])) (by kernel_rfl) ?_
          refine oK [1, 8, 9, 11, 90] (eE := [(1, .int .i64 a1), (8, .int .i64 z5.2.2), (9, .int .i64 z7.2.1), (11, .int .i64 (fW .i64 (z5.1 + z7.2.2))), (90, .bool true)]) (by kernel_rfl) ?_
          exact hj8 (z7.2.1, fW .i64 (z5.1 + z7.2.2), true)
         ·refine oR 2 (p' := (atN 21 (ctl1 g79p12))) (eE := ((80, .int .i64 (fW .i64 (z5.1 + z7.2.2))) :: (79, .str a0) :: (78, .bool false) :: E14)) (H' := (mkH [])) (by kernel_rfl) ?_
          refine oH (fun (x3_21 : Int) => (.int .u8 x3_21, (mkH []))) (atN 22 (ctl1 g79p12)) (fun x3_21 => ((81, .int .u8 x3_21) :: (80, .int .i64 (fW .i64 (z5.1 + z7.2.2))) :: (79, .str a0) :: (78, .bool false) :: E14)) (idxH (by kernel_rfl)) (fun _ => by kernel_rfl) (fun x3_21 hx3_21 => ?_)
          let E16 : Env := ((86, .bool (!decide (x3_21 = 125))) :: (85, .bool (!decide (x3_21 = 125))) :: (84, .bool (!decide (x3_21 = 125))) :: (83, .bool (!decide (x3_21 = 125))) :: (82, .bool (!decide (x3_21 = 125))) :: (81, .int .u8 x3_21) :: (80, .int .i64 (fW .i64 (z5.1 + z7.2.2))) :: (79, .str a0) :: (78, .bool false) :: E14)
          refine oR 5 (p' := (atN 27 (ctl1 g79p12))) (eE := E16) (H' := (mkH [])) (by kernel_rfl) ?_
          refine oS 86 (b := !decide (x3_21 = 125)) (by kernel_rfl) (fun hb => ?_) (fun hb => ?_)
          ·let E17 : Env := ((90, .bool true) :: (89, .tuple []) :: (88, .tuple []) :: (87, .tuple []) :: (86, .bool true) :: E16)
           refine oR 5 (p' := g79p13) (eE := E17) (H' := (mkH [])) (by kernel_rfl) ?_
           refine oK [1, 8, 9, 11, 90] (eE := [(1, .int .i64 a1), (8, .int .i64 z5.2.2), (9, .int .i64 z7.2.1), (11, .int .i64 (fW .i64 (z5.1 + z7.2.2))), (90, .bool true)]) (by kernel_rfl) ?_
           exact hj8 (z7.2.1, fW .i64 (z5.1 + z7.2.2), true)
          ·refine oR 1 (p' := (atN 28 (ctl1 g79p12))) (eE := ((87, .int .i64 z7.2.1) :: (86, .bool false) :: E16)) (H' := (mkH [])) (by kernel_rfl) ?_
           refine oC (fun (x3_28 : (List Nat)) => .str x3_28) (atN 29 (ctl1 g79p12)) (fun x3_28 => ((88, .str x3_28) :: (87, .int .i64 z7.2.1) :: (86, .bool false) :: E16)) (fi := 94) (args := [.int .i64 z7.2.1]) (by kernel_rfl) (by kernel_rfl) (fun _ => by kernel_rfl) (fun r h => g94_ok k z7.2.1 r h) (fun _ => by kernel_rfl) (fun x3_28 hx3_28 => ?_)
           let E18 : Env := ((90, .bool (eqL x3_28 [])) :: (89, .bool (eqL x3_28 [])) :: (88, .str x3_28) :: (87, .int .i64 z7.2.1) :: (86, .bool false) :: E16)
           refine oR 3 (p' := g79p13) (eE := E18) (H' := (mkH [])) (by kernel_rfl) ?_
           refine oK [1, 8, 9, 11, 90] (eE := [(1, .int .i64 a1), (8, .int .i64 z5.2.2), (9, .int .i64 z7.2.1), (11, .int .i64 (fW .i64 (z5.1 + z7.2.2))), (90, .bool (eqL x3_28 []))]) (by kernel_rfl) ?_
           exact hj8 (z7.2.1, fW .i64 (z5.1 + z7.2.2), eqL x3_28 [])
        ·let E19 : Env := ((87, .int .i64 z7.2.1) :: (86, .bool false) :: (85, .bool false) :: (84, .bool false) :: (83, .tuple []) :: (82, .tuple []) :: (81, .tuple []) :: (80, .tuple []) :: (79, .tuple []) :: (78, .tuple []) :: (77, .tuple []) :: (76, .tuple []) :: (75, .tuple []) :: (74, .tuple []) :: (73, .bool false) :: (73, .bool (decide (z5.2.2 = 1))) :: (72, .bool (decide (z5.2.2 = 1))) :: (71, .int .i64 z5.2.2) :: (70, .bool false) :: E12)
         refine oR 14 (p' := (atN 28 (ctl1 g79p12))) (eE := E19) (H' := (mkH [])) (by kernel_rfl) ?_
         refine oC (fun (x3_28 : (List Nat)) => .str x3_28) (atN 29 (ctl1 g79p12)) (fun x3_28 => ((88, .str x3_28) :: E19)) (fi := 94) (args := [.int .i64 z7.2.1]) (by kernel_rfl) (by kernel_rfl) (fun _ => by kernel_rfl) (fun r h => g94_ok k z7.2.1 r h) (fun _ => by kernel_rfl) (fun x3_28 hx3_28 => ?_)
         refine oR 3 (p' := g79p13) (eE := ((90, .bool (eqL x3_28 [])) :: (89, .bool (eqL x3_28 [])) :: (88, .str x3_28) :: E19)) (H' := (mkH [])) (by kernel_rfl) ?_
         refine oK [1, 8, 9, 11, 90] (eE := [(1, .int .i64 a1), (8, .int .i64 z5.2.2), (9, .int .i64 z7.2.1), (11, .int .i64 (fW .i64 (z5.1 + z7.2.2))), (90, .bool (eqL x3_28 []))]) (by kernel_rfl) ?_
         exact hj8 (z7.2.1, fW .i64 (z5.1 + z7.2.2), eqL x3_28 [])
     ·let E20 : Env := ((70, .bool (decide (z7.2.2 < 1))) :: (69, .bool (decide (z7.2.2 < 1))) :: (68, .bool (decide (z7.2.2 < 1))) :: (67, .int .i64 z7.2.2) :: (66, .bool false) :: (65, .bool false) :: (64, .tuple []) :: (63, .tuple []) :: (62, .bool false) :: E7)
      refine oR 8 (p' := (atN 11 (ctl1 g79p12))) (eE := E20) (H' := (mkH [])) (by kernel_rfl) ?_
      refine oS 70 (b := decide (z7.2.2 < 1)) (by kernel_rfl) (fun hb => ?_) (fun hb => ?_)
      ·let E21 : Env := ((90, .bool true) :: (89, .tuple []) :: (88, .tuple []) :: (87, .tuple []) :: (86, .bool true) :: (85, .bool true) :: (84, .tuple []) :: (83, .tuple []) :: (82, .tuple []) :: (81, .tuple []) :: (80, .tuple []) :: (79, .tuple []) :: (78, .tuple []) :: (77, .tuple []) :: (76, .tuple []) :: (75, .tuple []) :: (74, .tuple []) :: (73, .tuple []) :: (72, .tuple []) :: (71, .tuple []) :: (70, .bool true) :: E20)
       refine oR 21 (p' := g79p13) (eE := E21) (H' := (mkH [])) (by kernel_rfl) ?_
       refine oK [1, 8, 9, 11, 90] (eE := [(1, .int .i64 a1), (8, .int .i64 z5.2.2), (9, .int .i64 z7.2.1), (11, .int .i64 (fW .i64 (z5.1 + z7.2.2))), (90, .bool true)]) (by kernel_rfl) ?_
       exact hj8 (z7.2.1, fW .i64 (z5.1 + z7.2.2), true)
      ·refine oR 3 (p' := (atN 14 (ctl1 g79p12))) (eE := ((73, .bool (decide (z5.2.2 = 1))) :: (72, .bool (decide (z5.2.2 = 1))) :: (71, .int .i64 z5.2.2) :: (70, .bool false) :: E20)) (H' := (mkH [])) (by kernel_rfl) ?_
       refine oS 73 (b := decide (z5.2.2 = 1)) (by kernel_rfl) (fun hb => ?_) (fun hb => ?_)
       ·let E22 : Env := ((78, .bool (decide ((a0.length : Int) ≤ fW .i64 (z5.1 + z7.2.2)))) :: (77, .bool (decide ((a0.length : Int) ≤ fW .i64 (z5.1 + z7.2.2)))) :: (76, .int .i64 (a0.length : Int)) :: (75, .str a0) :: (74, .int .i64 (fW .i64 (z5.1 + z7.2.2))) :: (73, .bool true) :: (73, .bool (decide (z5.2.2 = 1))) :: (72, .bool (decide (z5.2.2 = 1))) :: (71, .int .i64 z5.2.2) :: (70, .bool false) :: E20)
        refine oR 5 (p' := (atN 19 (ctl1 g79p12))) (eE := E22) (H' := (mkH [])) (by kernel_rfl) ?_
        refine oS 78 (b := decide ((a0.length : Int) ≤ fW .i64 (z5.1 + z7.2.2))) (by kernel_rfl) (fun hb => ?_) (fun hb => ?_)
        ·let E23 : Env := ((90, .bool true) :: (89, .tuple []) :: (88, .tuple []) :: (87, .tuple []) :: (86, .bool true) :: (85, .bool true) :: (84, .bool true) :: (83, .bool true) :: (82, .tuple []) :: (81, .tuple []) :: (80, .tuple []) :: (79, .tuple []) :: (78, .bool true) :: E22)
         refine oR 13 (p' := g79p13) (eE := E23) (H' := (mkH [])) (by kernel_rfl) ?_
         refine oK [1, 8, 9, 11, 90] (eE := [(1, .int .i64 a1), (8, .int .i64 z5.2.2), (9, .int .i64 z7.2.1), (11, .int .i64 (fW .i64 (z5.1 + z7.2.2))), (90, .bool true)]) (by kernel_rfl) ?_
         exact hj8 (z7.2.1, fW .i64 (z5.1 + z7.2.2), true)
        ·refine oR 2 (p' := (atN 21 (ctl1 g79p12))) (eE := ((80, .int .i64 (fW .i64 (z5.1 + z7.2.2))) :: (79, .str a0) :: (78, .bool false) :: E22)) (H' := (mkH [])) (by kernel_rfl) ?_
         refine oH (fun (x3_21 : Int) => (.int .u8 x3_21, (mkH []))) (atN 22 (ctl1 g79p12)) (fun x3_21 => ((81, .int .u8 x3_21) :: (80, .int .i64 (fW .i64 (z5.1 + z7.2.2))) :: (79, .str a0) :: (78, .bool false) :: E22)) (idxH (by kernel_rfl)) (fun _ => by kernel_rfl) (fun x3_21 hx3_21 => ?_)
         let E24 : Env := ((86, .bool (!decide (x3_21 = 125))) :: (85, .bool (!decide (x3_21 = 125))) :: (84, .bool (!decide (x3_21 = 125))) :: (83, .bool (!decide (x3_21 = 125))) :: (82, .bool (!decide (x3_21 = 125))) :: (81, .int .u8 x3_21) :: (80, .int .i64 (fW .i64 (z5.1 + z7.2.2))) :: (79, .str a0) :: (78, .bool false) :: E22)
         refine oR 5 (p' := (atN 27 (ctl1 g79p12))) (eE := E24) (H' := (mkH [])) (by kernel_rfl) ?_
         refine oS 86 (b := !decide (x3_21 = 125)) (by kernel_rfl) (fun hb => ?_) (fun hb => ?_)
         ·let E25 : Env := ((90, .bool true) :: (89, .tuple []) :: (88, .tuple []) :: (87, .tuple []) :: (86, .bool true) :: E24)
          refine oR 5 (p' := g79p13) (eE := E25) (H' := (mkH [])) (by kernel_rfl) ?_
          refine oK [1, 8, 9, 11, 90] (eE := [(1, .int .i64 a1), (8, .int .i64 z5.2.2), (9, .int .i64 z7.2.1), (11, .int .i64 (fW .i64 (z5.1 + z7.2.2))), (90, .bool true)]) (by kernel_rfl) ?_
          exact hj8 (z7.2.1, fW .i64 (z5.1 + z7.2.2), true)
         ·refine oR 1 (p' := (atN 28 (ctl1 g79p12))) (eE := ((87, .int .i64 z7.2.1) :: (86, .bool false) :: E24)) (H' := (mkH [])) (by kernel_rfl) ?_
          refine oC (fun (x3_28 : (List Nat)) => .str x3_28) (atN 29 (ctl1 g79p12)) (fun x3_28 => ((88, .str x3_28) :: (87, .int .i64 z7.2.1) :: (86, .bool false) :: E24)) (fi := 94) (args := [.int .i64 z7.2.1]) (by kernel_rfl) (by kernel_rfl) (fun _ => by kernel_rfl) (fun r h => g94_ok k z7.2.1 r h) (fun _ => by kernel_rfl) (fun x3_28 hx3_28 => ?_)
          let E26 : Env := ((90, .bool (eqL x3_28 [])) :: (89, .bool (eqL x3_28 [])) :: (88, .str x3_28) :: (87, .int .i64 z7.2.1) :: (86, .bool false) :: E24)
          refine oR 3 (p' := g79p13) (eE := E26) (H' := (mkH [])) (by kernel_rfl) ?_
          refine oK [1, 8, 9, 11, 90] (eE := [(1, .int .i64 a1), (8, .int .i64 z5.2.2), (9, .int .i64 z7.2.1), (11, .int .i64 (fW .i64 (z5.1 + z7.2.2))), (90, .bool (eqL x3_28 []))]) (by kernel_rfl) ?_
          exact hj8 (z7.2.1, fW .i64 (z5.1 + z7.2.2), eqL x3_28 [])
       ·let E27 : Env := ((87, .int .i64 z7.2.1) :: (86, .bool false) :: (85, .bool false) :: (84, .bool false) :: (83, .tuple []) :: (82, .tuple []) :: (81, .tuple []) :: (80, .tuple []) :: (79, .tuple []) :: (78, .tuple []) :: (77, .tuple []) :: (76, .tuple []) :: (75, .tuple []) :: (74, .tuple []) :: (73, .bool false) :: (73, .bool (decide (z5.2.2 = 1))) :: (72, .bool (decide (z5.2.2 = 1))) :: (71, .int .i64 z5.2.2) :: (70, .bool false) :: E20)
        refine oR 14 (p' := (atN 28 (ctl1 g79p12))) (eE := E27) (H' := (mkH [])) (by kernel_rfl) ?_
        refine oC (fun (x3_28 : (List Nat)) => .str x3_28) (atN 29 (ctl1 g79p12)) (fun x3_28 => ((88, .str x3_28) :: E27)) (fi := 94) (args := [.int .i64 z7.2.1]) (by kernel_rfl) (by kernel_rfl) (fun _ => by kernel_rfl) (fun r h => g94_ok k z7.2.1 r h) (fun _ => by kernel_rfl) (fun x3_28 hx3_28 => ?_)
        refine oR 3 (p' := g79p13) (eE := ((90, .bool (eqL x3_28 [])) :: (89, .bool (eqL x3_28 [])) :: (88, .str x3_28) :: E27)) (H' := (mkH [])) (by kernel_rfl) ?_
        refine oK [1, 8, 9, 11, 90] (eE := [(1, .int .i64 a1), (8, .int .i64 z5.2.2), (9, .int .i64 z7.2.1), (11, .int .i64 (fW .i64 (z5.1 + z7.2.2))), (90, .bool (eqL x3_28 []))]) (by kernel_rfl) ?_
        exact hj8 (z7.2.1, fW .i64 (z5.1 + z7.2.2), eqL x3_28 [])
  ·refine oS 29 (b := decide (y6_1 < z5.2.1)) (by kernel_rfl) (fun hb => ?_) (fun hb => ?_)
   ·let E28 : Env := ((37, .bool (decide (fW .i64 (z5.1 + y6_1) < (a0.length : Int)))) :: (36, .bool (decide (fW .i64 (z5.1 + y6_1) < (a0.length : Int)))) :: (35, .bool (decide (fW .i64 (z5.1 + y6_1) < (a0.length : Int)))) :: (34, .int .i64 (a0.length : Int)) :: (33, .str a0) :: (32, .int .i64 (fW .i64 (z5.1 + y6_1))) :: (31, .int .i64 y6_1) :: (30, .int .i64 z5.1) :: (29, .bool true) :: E3)
    refine oR 8 (p' := (atN 12 (ctl1 g79p7))) (eE := E28) (H' := (mkH [])) (by kernel_rfl) ?_
    refine oS 37 (b := decide (fW .i64 (z5.1 + y6_1) < (a0.length : Int))) (by kernel_rfl) (fun hb => ?_) (fun hb => ?_)
    ·let E29 : Env := ((41, .int .i64 (fW .i64 (z5.1 + y6_1))) :: (40, .int .i64 y6_1) :: (39, .int .i64 z5.1) :: (38, .str a0) :: (37, .bool true) :: E28)
     refine oR 4 (p' := (atN 16 (ctl1 g79p7))) (eE := E29) (H' := (mkH [])) (by kernel_rfl) ?_
     refine oH (fun (x1_16 : Int) => (.int .u8 x1_16, (mkH []))) (atN 17 (ctl1 g79p7)) (fun x1_16 => ((42, .int .u8 x1_16) :: E29)) (idxH (by kernel_rfl)) (fun _ => by kernel_rfl) (fun x1_16 hx1_16 => ?_)
     refine oC (fun (x1_17 : Int) => .int .i64 x1_17) (atN 18 (ctl1 g79p7)) (fun x1_17 => ((43, .int .i64 x1_17) :: (42, .int .u8 x1_16) :: E29)) (fi := 75) (args := [.int .u8 x1_16]) (by kernel_rfl) (by kernel_rfl) (fun _ => by kernel_rfl) (fun r h => g75_ok k x1_16 r h) (fun _ => by kernel_rfl) (fun x1_17 hx1_17 => ?_)
     refine oR 3 (p' := g79p8) (eE := ((45, .bool (decide (x1_17 < 16))) :: (44, .bool (decide (x1_17 < 16))) :: (43, .int .i64 x1_17) :: (42, .int .u8 x1_16) :: E29)) (H' := (mkH [])) (by kernel_rfl) ?_
     refine oK [0, 1, 6, 7, 8, 9, 10, 45] (eE := [(0, .str a0), (1, .int .i64 a1), (6, .int .i64 z5.1), (7, .int .i64 z5.2.1), (8, .int .i64 z5.2.2), (9, .int .i64 y6_0), (10, .int .i64 y6_1), (45, .bool (decide (x1_17 < 16)))]) (by kernel_rfl) ?_
     exact hj7 (decide (x1_17 < 16), y6_0, y6_1)
    ·let E30 : Env := ((45, .bool false) :: (44, .tuple []) :: (43, .tuple []) :: (42, .tuple []) :: (41, .tuple []) :: (40, .tuple []) :: (39, .tuple []) :: (38, .tuple []) :: (37, .bool false) :: E28)
     refine oR 9 (p' := g79p8) (eE := E30) (H' := (mkH [])) (by kernel_rfl) ?_
     refine oK [0, 1, 6, 7, 8, 9, 10, 45] (eE := [(0, .str a0), (1, .int .i64 a1), (6, .int .i64 z5.1), (7, .int .i64 z5.2.1), (8, .int .i64 z5.2.2), (9, .int .i64 y6_0), (10, .int .i64 y6_1), (45, .bool false)]) (by kernel_rfl) ?_
     exact hj7 (false, y6_0, y6_1)
   ·let E31 : Env := ((45, .bool false) :: (44, .tuple []) :: (43, .tuple []) :: (42, .tuple []) :: (41, .tuple []) :: (40, .tuple []) :: (39, .tuple []) :: (38, .tuple []) :: (37, .bool false) :: (36, .bool false) :: (35, .tuple []) :: (34, .tuple []) :: (33, .tuple []) :: (32, .tuple []) :: (31, .tuple []) :: (30, .tuple []) :: (29, .bool false) :: E3)
    refine oR 17 (p' := g79p8) (eE := E31) (H' := (mkH [])) (by kernel_rfl) ?_
    refine oK [0, 1, 6, 7, 8, 9, 10, 45] (eE := [(0, .str a0), (1, .int .i64 a1), (6, .int .i64 z5.1), (7, .int .i64 z5.2.1), (8, .int .i64 z5.2.2), (9, .int .i64 y6_0), (10, .int .i64 y6_1), (45, .bool false)]) (by kernel_rfl) ?_
    exact hj7 (false, y6_0, y6_1)
def g79 (k : Nat) (a0 : (List Nat)) (a1 : Int) : Option (Int × Int) :=
 jn (fun (z4 : Bool) => jn (fun (z5 : Int × Int × Int) => g79_l6 k a0 a1 z5 k 0 0) (fun j5 => if z4 then (j5 (fW .i64 (fW .i64 (a1 + 2) + 1), 6, 1)) else (j5 (fW .i64 (a1 + 2), 2, 0)))) (fun j4 => if (decide (fW .i64 (a1 + 2) < (a0.length : Int))) then ((nthS a0 (fW .i64 (a1 + 2))).bind fun x0_7 => j4 (decide (x0_7 = 123))) else (j4 false))
theorem g79_ok (k : Nat) (a0 : (List Nat)) (a1 : Int) (r : (Int × Int)) (h : g79 k a0 a1 = some r) : PureOk Try.prog 79 [.str a0, .int .i64 a1] (.tuple [.int .i64 r.1, .int .i64 r.2]) := by
 refine pure_of X79 (fun _ => rfl) Try.func79 (by decide +kernel) (by kernel_rfl) (t := g79 k a0 a1) ?_ h
 unfold g79
 refine oE (eE := [(0, .str a0), (1, .int .i64 a1)]) (by kernel_rfl) ?_
 let E1 : Env := [(18, .bool (decide (fW .i64 (a1 + 2) < (a0.length : Int)))), (17, .bool (decide (fW .i64 (a1 + 2) < (a0.length : Int)))), (16, .int .i64 (a0.length : Int)), (15, .str a0), (14, .int .i64 (fW .i64 (a1 + 2))), (8, .int .i64 0), (7, .int .i64 2), (6, .int .i64 (fW .i64 (a1 + 2))), (13, .int .i64 (fW .i64 (a1 + 2))), (12, .int .i64 a1), (5, .int .i64 0), (4, .int .i64 0), (0, .str a0), (1, .int .i64 a1)]
 refine oR 21 (p' := (atN 5 (ctl1 g79p2))) (eE := E1) (H' := (mkH [])) (by kernel_rfl) ?_
 refine oJ (f := fun (z4 : Bool) => jn (fun (z5 : Int × Int × Int) => g79_l6 k a0 a1 z5 k 0 0) (fun j5 => if z4 then (j5 (fW .i64 (fW .i64 (a1 + 2) + 1), 6, 1)) else (j5 (fW .i64 (a1 + 2), 2, 0)))) g79p3 (fun (z4 : Bool) => [(0, .str a0), (1, .int .i64 a1), (6, .int .i64 (fW .i64 (a1 + 2))), (7, .int .i64 2), (8, .int .i64 0), (23, .bool z4)]) (fun (z4 : Bool) => (mkH [])) (fun z4 => ?_) (fun j4 hj4 => ?_)
 ·refine oJ (f := fun (z5 : Int × Int × Int) => g79_l6 k a0 a1 z5 k 0 0) g79p5 (fun (z5 : Int × Int × Int) => [(0, .str a0), (1, .int .i64 a1), (6, .int .i64 z5.1), (7, .int .i64 z5.2.1), (8, .int .i64 z5.2.2)]) (fun (z5 : Int × Int × Int) => (mkH [])) (fun z5 => ?_) (fun j5 hj5 => ?_)
  ·let E2 : Env := [(10, .int .i64 0), (9, .int .i64 0), (0, .str a0), (1, .int .i64 a1), (6, .int .i64 z5.1), (7, .int .i64 z5.2.1), (8, .int .i64 z5.2.2)]
   refine oR 7 (p' := g79p6) (eE := E2) (H' := (mkH [])) (by kernel_rfl) ?_
   refine oK [0, 1, 6, 7, 8, 9, 10] (eE := [(0, .str a0), (1, .int .i64 a1), (6, .int .i64 z5.1), (7, .int .i64 z5.2.1), (8, .int .i64 z5.2.2), (9, .int .i64 0), (10, .int .i64 0)]) (by kernel_rfl) ?_
   exact (g79_l6_ok k a0 a1 z5 k) 0 0
  ·refine oS 23 (b := z4) (by kernel_rfl) (fun hb => ?_) (fun hb => ?_)
   ·let E32 : Env := [(8, .int .i64 1), (7, .int .i64 6), (6, .int .i64 (fW .i64 (fW .i64 (a1 + 2) + 1))), (25, .int .i64 (fW .i64 (fW .i64 (a1 + 2) + 1))), (24, .int .i64 (fW .i64 (a1 + 2))), (23, .bool true), (0, .str a0), (1, .int .i64 a1), (6, .int .i64 (fW .i64 (a1 + 2))), (7, .int .i64 2), (8, .int .i64 0), (23, .bool z4)]
    refine oR 9 (p' := g79p5) (eE := E32) (H' := (mkH [])) (by kernel_rfl) ?_
    refine oK [0, 1, 6, 7, 8] (eE := [(0, .str a0), (1, .int .i64 a1), (6, .int .i64 (fW .i64 (fW .i64 (a1 + 2) + 1))), (7, .int .i64 6), (8, .int .i64 1)]) (by kernel_rfl) ?_
    exact hj5 (fW .i64 (fW .i64 (a1 + 2) + 1), 6, 1)
   ·let E33 : Env := [(23, .bool false), (0, .str a0), (1, .int .i64 a1), (6, .int .i64 (fW .i64 (a1 + 2))), (7, .int .i64 2), (8, .int .i64 0), (23, .bool z4)]
    refine oR 3 (p' := g79p5) (eE := E33) (H' := (mkH [])) (by kernel_rfl) ?_
    refine oK [0, 1, 6, 7, 8] (eE := [(0, .str a0), (1, .int .i64 a1), (6, .int .i64 (fW .i64 (a1 + 2))), (7, .int .i64 2), (8, .int .i64 0)]) (by kernel_rfl) ?_
    exact hj5 (fW .i64 (a1 + 2), 2, 0)
 ·refine oS 18 (b := decide (fW .i64 (a1 + 2) < (a0.length : Int))) (by kernel_rfl) (fun hb => ?_) (fun hb => ?_)
  ·refine oR 2 (p' := (atN 7 (ctl1 g79p2))) (eE := ((20, .int .i64 (fW .i64 (a1 + 2))) :: (19, .str a0) :: (18, .bool true) :: E1)) (H' := (mkH [])) (by kernel_rfl) ?_
   refine oH (fun (x0_7 : Int) => (.int .u8 x0_7, (mkH []))) (atN 8 (ctl1 g79p2)) (fun x0_7 => ((21, .int .u8 x0_7) :: (20, .int .i64 (fW .i64 (a1 + 2))) :: (19, .str a0) :: (18, .bool true) :: E1)) (idxH (by kernel_rfl)) (fun _ => by kernel_rfl) (fun x0_7 hx0_7 => ?_)
   let E34 : Env := ((23, .bool (decide (x0_7 = 123))) :: (22, .bool (decide (x0_7 = 123))) :: (21, .int .u8 x0_7) :: (20, .int .i64 (fW .i64 (a1 + 2))) :: (19, .str a0) :: (18, .bool true) :: E1)
   refine oR 3 (p' := g79p3) (eE := E34) (H' := (mkH [])) (by kernel_rfl) ?_
   refine oK [0, 1, 6, 7, 8, 23] (eE := [(0, .str a0), (1, .int .i64 a1), (6, .int .i64 (fW .i64 (a1 + 2))), (7, .int .i64 2), (8, .int .i64 0), (23, .bool (decide (x0_7 = 123)))]) (by kernel_rfl) ?_
   exact hj4 (decide (x0_7 = 123))
  ·let E35 : Env := ((23, .bool false) :: (22, .tuple []) :: (21, .tuple []) :: (20, .tuple []) :: (19, .tuple []) :: (18, .bool false) :: E1)
   refine oR 6 (p' := g79p3) (eE := E35) (H' := (mkH [])) (by kernel_rfl) ?_
   refine oK [0, 1, 6, 7, 8, 23] (eE := [(0, .str a0), (1, .int .i64 a1), (6, .int .i64 (fW .i64 (a1 + 2))), (7, .int .i64 2), (8, .int .i64 0), (23, .bool false)]) (by kernel_rfl) ?_
   exact hj4 false
end
end Go.Proofs.Ytabhkocokojddaa.Am
set_option maxRecDepth 100000
set_option linter.unusedVariables false
namespace Go.Proofs.Ytabhkocokojddaa.Am
noncomputable section
open Go
def X80 : Fx (Int × Int) := ⟨Try.prog, cx, Try.f80, fun r => .tuple [.int .i64 r.1, .int .i64 r.2], 0, fun _ => H0, cxTi, cxOrd⟩
def g80p0 : Pt := nav [0] (bodyAt Try.f80)
def g80p1 : Pt := nav [0, 0, 0, 0] g80p0
def g80p2 : Pt := nav [0, 0] g80p1
def g80p4 : Pt := nav [2, 0, 0] g80p2
def g80p6 : Pt := nav [0, 0, 0, 0] g80p4
def g80p7 : Pt := nav [0, 0] g80p6
def g80 (k : Nat) (a0 : (List Nat)) (a1 : Int) : Option (Int × Int) :=
 if (decide ((a0.length : Int) ≤ fW .i64 (a1 + 2))) then (some (((-1) : Int), (0 : Int))) else ((nthS a0 (fW .i64 (a1 + 2))).bind fun x0_3 => jn (fun (z1 : Bool) => if z1 then (some (((-1) : Int), (0 : Int))) else (some (fW .i64 (andI .u8 x0_3 31), (3 : Int)))) (fun j1 => if (decide (x0_3 < 64)) then (j1 true) else (if (decide (95 < x0_3)) then (if (decide (x0_3 < 97)) then (j1 true) else (j1 (decide (122 < x0_3)))) else (j1 false))))
theorem g80_ok (k : Nat) (a0 : (List Nat)) (a1 : Int) (r : (Int × Int)) (h : g80 k a0 a1 = some r) : PureOk Try.prog 80 [.str a0, .int .i64 a1] (.tuple [.int .i64 r.1, .int .i64 r.2]) := by
 refine pure_of X80 (fun _ => rfl) Try.func80 (by decide +kernel) (by kernel_rfl) (t := g80 k a0 a1) ?_ h
 unfold g80
 refine oE (eE := [(0, .str a0), (1, .int .i64 a1)]) (by kernel_rfl) ?_
 let E1 : Env := [(11, .bool (decide ((a0.length : Int) ≤ fW .i64 (a1 + 2)))), (10, .int .i64 (a0.length : Int)), (9, .str a0), (8, .int .i64 (fW .i64 (a1 + 2))), (7, .int .i64 a1), (5, .int .i64 0), (4, .int .i64 0), (0, .str a0), (1, .int .i64 a1)]
 refine oR 14 (p' := g80p2) (eE := E1) (H' := (mkH [])) (by kernel_rfl) ?_
 refine oS 11 (b := decide ((a0.length : Int) ≤ fW .i64 (a1 + 2))) (by kernel_rfl) (fun hb => ?_) (fun hb => ?_)
 ·refine oR 7 (p' := .fin) (eE := ((5, .int .i64 0) :: (4, .int .i64 (-1)) :: (11, .bool true) :: E1)) (H' := (mkH [])) (by kernel_rfl) ?_
  exact oT (r := (((-1) : Int), (0 : Int))) (xs := [.int .i64 (-1), .int .i64 0]) (v := .tuple [.int .i64 (-1), .int .i64 0]) (by kernel_rfl) (by kernel_rfl) (by kernel_rfl) (.pures (by kernel_rfl)) (by kernel_rfl)
 ·refine oR 7 (p' := (atN 3 (ctl1 g80p4))) (eE := ((14, .int .i64 (fW .i64 (a1 + 2))) :: (13, .int .i64 a1) :: (12, .str a0) :: (11, .bool false) :: E1)) (H' := (mkH [])) (by kernel_rfl) ?_
  refine oH (fun (x0_3 : Int) => (.int .u8 x0_3, (mkH []))) (atN 4 (ctl1 g80p4)) (fun x0_3 => ((15, .int .u8 x0_3) :: (14, .int .i64 (fW .i64 (a1 + 2))) :: (13, .int .i64 a1) :: (12, .str a0) :: (11, .bool false) :: E1)) (idxH (by kernel_rfl)) (fun _ => by kernel_rfl) (fun x0_3 hx0_3 => ?_)
  let E2 : Env := ((6, .int .u8 x0_3) :: (15, .int .u8 x0_3) :: (14, .int .i64 (fW .i64 (a1 + 2))) :: (13, .int .i64 a1) :: (12, .str a0) :: (11, .bool false) :: E1)
  refine oR 4 (p' := g80p6) (eE := E2) (H' := (mkH [])) (by kernel_rfl) ?_
  refine oK [6] (eE := [(6, .int .u8 x0_3)]) (by kernel_rfl) ?_
  refine oR 4 (p' := (atN 3 (ctl1 g80p6))) (eE := [(18, .bool (decide (x0_3 < 64))), (17, .bool (decide (x0_3 < 64))), (16, .int .u8 x0_3), (6, .int .u8 x0_3)]) (H' := (mkH [])) (by kernel_rfl) ?_
  refine oJ (f := fun (z1 : Bool) => if z1 then (some (((-1) : Int), (0 : Int))) else (some (fW .i64 (andI .u8 x0_3 31), (3 : Int)))) g80p7 (fun (z1 : Bool) => [(6, .int .u8 x0_3), (29, .bool z1)]) (fun (z1 : Bool) => (mkH [])) (fun z1 => ?_) (fun j1 hj1 => ?_)
  ·refine oS 29 (b := z1) (by kernel_rfl) (fun hb => ?_) (fun hb => ?_)
   ·let E3 : Env := [(5, .int .i64 0), (4, .int .i64 (-1)), (29, .bool true), (6, .int .u8 x0_3), (29, .bool z1)]
    refine oR 7 (p' := .fin) (eE := E3) (H' := (mkH [])) (by kernel_rfl) ?_
    exact oT (r := (((-1) : Int), (0 : Int))) (xs := [.int .i64 (-1), .int .i64 0]) (v := .tuple [.int .i64 (-1), .int .i64 0]) (by kernel_rfl) (by kernel_rfl) (by kernel_rfl) (.pures (by kernel_rfl)) (by kernel_rfl)
   ·let E4 : Env := [(5, .int .i64 3), (4, .int .i64 (fW .i64 (andI .u8 x0_3 31))), (32, .int .i64 (fW .i64 (andI .u8 x0_3 31))), (31, .int .u8 (andI .u8 x0_3 31)), (30, .int .u8 x0_3), (29, .bool false), (6, .int .u8 x0_3), (29, .bool z1)]
    refine oR 11 (p' := .fin) (eE := E4) (H' := (mkH [])) (by kernel_rfl) ?_
    exact oT (r := (fW .i64 (andI .u8 x0_3 31), (3 : Int))) (xs := [.int .i64 (fW .i64 (andI .u8 x0_3 31)), .int .i64 3]) (v := .tuple [.int .i64 (fW .i64 (andI .u8 x0_3 31)), .int .i64 3]) (by kernel_rfl) (by kernel_rfl) (by kernel_rfl) (.pures (by kernel_rfl)) (by kernel_rfl)
  ·refine oS 18 (b := decide (x0_3 < 64)) (by kernel_rfl) (fun hb => ?_) (fun hb => ?_)
   ·let E5 : Env := [(29, .bool true), (28, .tuple []), (27, .tuple []), (26, .tuple []), (25, .tuple []), (24, .tuple []), (23, .tuple []), (22, .tuple []), (21, .tuple []), (20, .tuple []), (19, .tuple []), (18, .bool true), (18, .bool (decide (x0_3 < 64))), (17, .bool (decide (x0_3 < 64))), (16, .int .u8 x0_3), (6, .int .u8 x0_3)]
    refine oR 12 (p' := g80p7) (eE := E5) (H' := (mkH [])) (by kernel_rfl) ?_
    refine oK [6, 29] (eE := [(6, .int .u8 x0_3), (29, .bool true)]) (by kernel_rfl) ?_
    exact hj1 true
   ·let E6 : Env := [(21, .bool (decide (95 < x0_3))), (20, .bool (decide (95 < x0_3))), (19, .int .u8 x0_3), (18, .bool false), (18, .bool (decide (x0_3 < 64))), (17, .bool (decide (x0_3 < 64))), (16, .int .u8 x0_3), (6, .int .u8 x0_3)]
    refine oR 3 (p' := (atN 6 (ctl1 g80p6))) (eE := E6) (H' := (mkH [])) (by kernel_rfl) ?_
    refine oS 21 (b := decide (95 < x0_3)) (by kernel_rfl) (fun hb => ?_) (fun hb => ?_)
    ·refine oR 3 (p' := (atN 9 (ctl1 g80p6))) (eE := ((24, .bool (decide (x0_3 < 97))) :: (23, .bool (decide (x0_3 < 97))) :: (22, .int .u8 x0_3) :: (21, .bool true) :: E6)) (H' := (mkH [])) (by kernel_rfl) ?_
     refine oS 24 (b := decide (x0_3 < 97)) (by kernel_rfl) (fun hb => ?_) (fun hb => ?_)
     ·let E7 : Env := ((29, .bool true) :: (28, .bool true) :: (27, .bool true) :: (26, .tuple []) :: (25, .tuple []) :: (24, .bool true) :: (24, .bool (decide (x0_3 < 97))) :: (23, .bool (decide (x0_3 < 97))) :: (22, .int .u8 x0_3) :: (21, .bool true) :: E6)
      refine oR 6 (p' := g80p7) (eE := E7) (H' := (mkH [])) (by kernel_rfl) ?_
      refine oK [6, 29] (eE := [(6, .int .u8 x0_3), (29, .bool true)]) (by kernel_rfl) ?_
      exact hj1 true
     ·let E8 : Env := ((29, .bool (decide (122 < x0_3))) :: (28, .bool (decide (122 < x0_3))) :: (27, .bool (decide (122 < x0_3))) :: (26, .bool (decide (122 < x0_3))) :: (25, .int .u8 x0_3) :: (24, .bool false) :: (24, .bool (decide (x0_3 < 97))) :: (23, .bool (decide (x0_3 < 97))) :: (22, .int .u8 x0_3) :: (21, .bool true) :: E6)
      refine oR 6 (p' := g80p7) (eE := E8) (H' := (mkH [])) (by kernel_rfl) ?_
      refine oK [6, 29] (eE := [(6, .int .u8 x0_3), (29, .bool (decide (122 < x0_3)))]) (by kernel_rfl) ?_
      exact hj1 (decide (122 < x0_3))
    ·let E9 : Env := ((29, .bool false) :: (28, .bool false) :: (27, .tuple []) :: (26, .tuple []) :: (25, .tuple []) :: (24, .tuple []) :: (23, .tuple []) :: (22, .tuple []) :: (21, .bool false) :: E6)
     refine oR 9 (p' := g80p7) (eE := E9) (H' := (mkH [])) (by kernel_rfl) ?_
     refine oK [6, 29] (eE := [(6, .int .u8 x0_3), (29, .bool false)]) (by kernel_rfl) ?_
     exact hj1 false
end
end Go.Proofs.Ytabhkocokojddaa.Am
set_option maxRecDepth 100000
set_option linter.unusedVariables false
namespace Go.Proofs.Ytabhkocokojddaa.Am
noncomputable section
open Go
def X41 : Fx (Int × Int) := ⟨Try.prog, cx, Try.f41, fun r => .tuple [.int .i64 r.1, .int .i64 r.2], 0, fun _ => H0, cxTi, cxOrd⟩
def g41p0 : Pt := nav [0] (bodyAt Try.f41)
def g41p1 : Pt := nav [0, 0, 0, 0] g41p0
def g41p2 : Pt := nav [0, 0] g41p1
def g41p4 : Pt := nav [2, 0, 0] g41p2
def g41p6 : Pt := nav [0, 0, 0, 0, 0] g41p4
def g41p7 : Pt := nav [0, 0] g41p6
def g41p8 : Pt := nav [1, 0] g41p7
def g41p9 : Pt := nav [2, 0] g41p7
def g41p10 : Pt := nav [0, 0] g41p9
def g41p11 : Pt := nav [1, 0] g41p10
def g41p12 : Pt := nav [2, 0] g41p10
def g41p13 : Pt := nav [0, 0] g41p12
def g41p14 : Pt := nav [1, 0] g41p13
def g41p15 : Pt := nav [2, 0, 0, 0] g41p13
def g41p16 : Pt := nav [0, 0, 0, 0, 0] g41p14
def g41p17 : Pt := nav [0, 0, 0, 0] g41p15
def g41p18 : Pt := nav [0, 0, 0] g41p16
def g41p19 : Pt := nav [0, 0] g41p17
def g41p20 : Pt := nav [0, 0] g41p18
def g41p21 : Pt := nav [0, 0, 0] g41p19
def g41p22 : Pt := nav [1, 0, 0, 0] g41p20
def g41p24 : Pt := nav [1, 0, 0, 0] g41p21
def g41p25 : Pt := nav [2, 0, 0] g41p21
def g41p26 : Pt := nav [0, 0] g41p22
def g41p27 : Pt := nav [0, 0, 0] g41p24
def g41p28 : Pt := nav [0, 0, 0, 0] g41p25
def g41p29 : Pt := nav [0, 0] g41p27
def g41p30 : Pt := nav [0, 0] g41p28
def g41_l9 (k : Nat)  (a0 : (List Nat)) (a1 : Int) (n : Nat) : Int → Int → Option (Int × Int) :=
 Nat.rec (motive := fun _ => Int → Int → Option (Int × Int)) (fun _ _ => none) (fun _ ih => fun (y9_0 : Int) (y9_1 : Int) => jn (fun (z10 : Bool × Int × Int) => if z10.1 then ((nthS a0 (fW .i64 (a1 + z10.2.1))).bind fun x6_6 => (g75 k x6_6).bind fun x6_7 => ih (orI .i64 (shlC .i64 z10.2.2 3) x6_7) (fW .i64 (z10.2.1 + 1))) else (some (z10.2.2, z10.2.1))) (fun j10 => if (decide (y9_1 < 4)) then (if (decide (fW .i64 (a1 + y9_1) < (a0.length : Int))) then ((nthS a0 (fW .i64 (a1 + y9_1))).bind fun x5_15 => (g75 k x5_15).bind fun x5_16 => j10 (decide (x5_16 < 8), y9_1, y9_0)) else (j10 (false, y9_1, y9_0))) else (j10 (false, y9_1, y9_0)))) n
theorem g41_l9_s (k : Nat)  (a0 : (List Nat)) (a1 : Int) (n : Nat) (y9_0 : Int) (y9_1 : Int) : g41_l9 k a0 a1 (n + 1) y9_0 y9_1 = (jn (fun (z10 : Bool × Int × Int) => if z10.1 then ((nthS a0 (fW .i64 (a1 + z10.2.1))).bind fun x6_6 => (g75 k x6_6).bind fun x6_7 => (g41_l9 k a0 a1 n) (orI .i64 (shlC .i64 z10.2.2 3) x6_7) (fW .i64 (z10.2.1 + 1))) else (some (z10.2.2, z10.2.1))) (fun j10 => if (decide (y9_1 < 4)) then (if (decide (fW .i64 (a1 + y9_1) < (a0.length : Int))) then ((nthS a0 (fW .i64 (a1 + y9_1))).bind fun x5_15 => (g75 k x5_15).bind fun x5_16 => j10 (decide (x5_16 < 8), y9_1, y9_0)) else (j10 (false, y9_1, y9_0))) else (j10 (false, y9_1, y9_0)))) := rfl
theorem g41_l9_ok (k : Nat)  (a0 : (List Nat)) (a1 : Int)  : ∀ (n : Nat) (y9_0 : Int) (y9_1 : Int), Ok X41 g41p16 [(0, .str a0), (1, .int .i64 a1), (7, .int .i64 y9_0), (8, .int .i64 y9_1)] (mkH []) (g41_l9 k a0 a1 n y9_0 y9_1)
 | 0, _, _ => ok_none
 | n + 1, y9_0, y9_1 => by
  have ih := g41_l9_ok k a0 a1 n
  rw [g41_l9_s]
  refine ok_ent (p' := nav [0] g41p16) (by kernel_rfl) ?_
  let E10 : Env := [(63, .bool (decide (y9_1 < 4))), (62, .bool (decide (y9_1 < 4))), (61, .int .i64 y9_1), (0, .str a0), (1, .int .i64 a1), (7, .int .i64 y9_0), (8, .int .i64 y9_1)]
  refine oR 6 (p' := (atN 3 (ctl1 g41p18))) (eE := E10) (H' := (mkH [])) (by kernel_rfl) ?_
  refine oJ (f := fun (z10 : Bool × Int × Int) => if z10.1 then ((nthS a0 (fW .i64 (a1 + z10.2.1))).bind fun x6_6 => (g75 k x6_6).bind fun x6_7 => (g41_l9 k a0 a1 n) (orI .i64 (shlC .i64 z10.2.2 3) x6_7) (fW .i64 (z10.2.1 + 1))) else (some (z10.2.2, z10.2.1))) g41p20 (fun (z10 : Bool × Int × Int) => [(0, .str a0), (1, .int .i64 a1), (7, .int .i64 z10.2.2), (8, .int .i64 z10.2.1), (79, .bool z10.1)]) (fun (z10 : Bool × Int × Int) => (mkH [])) (fun z10 => ?_) (fun j10 hj10 => ?_)
  ·refine oS 79 (b := z10.1) (by kernel_rfl) (fun hb => ?_) (fun hb => ?_)
   ·let E11 : Env := [(85, .int .i64 (fW .i64 (a1 + z10.2.1))), (84, .int .i64 z10.2.1), (83, .int .i64 a1), (82, .str a0), (81, .int .i64 (shlC .i64 z10.2.2 3)), (80, .int .i64 z10.2.2), (79, .bool true), (0, .str a0), (1, .int .i64 a1), (7, .int .i64 z10.2.2), (8, .int .i64 z10.2.1), (79, .bool z10.1)]
    refine oR 11 (p' := (atN 6 (ctl1 g41p22))) (eE := E11) (H' := (mkH [])) (by kernel_rfl) ?_
    refine oH (fun (x6_6 : Int) => (.int .u8 x6_6, (mkH []))) (atN 7 (ctl1 g41p22)) (fun x6_6 => ((86, .int .u8 x6_6) :: E11)) (idxH (by kernel_rfl)) (fun _ => by kernel_rfl) (fun x6_6 hx6_6 => ?_)
    refine oC (fun (x6_7 : Int) => .int .i64 x6_7) (atN 8 (ctl1 g41p22)) (fun x6_7 => ((87, .int .i64 x6_7) :: (86, .int .u8 x6_6) :: E11)) (fi := 75) (args := [.int .u8 x6_6]) (by kernel_rfl) (by kernel_rfl) (fun _ => by kernel_rfl) (fun r h => g75_ok k x6_6 r h) (fun _ => by kernel_rfl) (fun x6_7 hx6_7 => ?_)
    refine oR 3 (p' := g41p26) (eE := ((7, .int .i64 (orI .i64 (shlC .i64 z10.2.2 3) x6_7)) :: (88, .int .i64 (orI .i64 (shlC .i64 z10.2.2 3) x6_7)) :: (87, .int .i64 x6_7) :: (86, .int .u8 x6_6) :: E11)) (H' := (mkH [])) (by kernel_rfl) ?_
    refine oK [0, 1, 7, 8] (eE := [(0, .str a0), (1, .int .i64 a1), (7, .int .i64 (orI .i64 (shlC .i64 z10.2.2 3) x6_7)), (8, .int .i64 z10.2.1)]) (by kernel_rfl) ?_
    let E12 : Env := [(8, .int .i64 (fW .i64 (z10.2.1 + 1))), (90, .int .i64 (fW .i64 (z10.2.1 + 1))), (89, .int .i64 z10.2.1), (0, .str a0), (1, .int .i64 a1), (7, .int .i64 (orI .i64 (shlC .i64 z10.2.2 3) x6_7)), (8, .int .i64 z10.2.1)]
    refine oR 5 (p' := g41p16) (eE := E12) (H' := (mkH [])) (by kernel_rfl) ?_
    refine oK [0, 1, 7, 8] (eE := [(0, .str a0), (1, .int .i64 a1), (7, .int .i64 (orI .i64 (shlC .i64 z10.2.2 3) x6_7)), (8, .int .i64 (fW .i64 (z10.2.1 + 1)))]) (by kernel_rfl) ?_
    exact ih (orI .i64 (shlC .i64 z10.2.2 3) x6_7) (fW .i64 (z10.2.1 + 1))
   ·let E13 : Env := [(5, .int .i64 z10.2.1), (4, .int .i64 z10.2.2), (92, .int .i64 z10.2.1), (91, .int .i64 z10.2.2), (79, .bool false), (0, .str a0), (1, .int .i64 a1), (7, .int .i64 z10.2.2), (8, .int .i64 z10.2.1), (79, .bool z10.1)]
    refine oR 10 (p' := .fin) (eE := E13) (H' := (mkH [])) (by kernel_rfl) ?_
    exact oT (r := (z10.2.2, z10.2.1)) (xs := [.int .i64 z10.2.2, .int .i64 z10.2.1]) (v := .tuple [.int .i64 z10.2.2, .int .i64 z10.2.1]) (by kernel_rfl) (by kernel_rfl) (by kernel_rfl) (.pures (by kernel_rfl)) (by kernel_rfl)
  ·refine oS 63 (b := decide (y9_1 < 4)) (by kernel_rfl) (fun hb => ?_) (fun hb => ?_)
   ·let E14 : Env := ((71, .bool (decide (fW .i64 (a1 + y9_1) < (a0.length : Int)))) :: (70, .bool (decide (fW .i64 (a1 + y9_1) < (a0.length : Int)))) :: (69, .bool (decide (fW .i64 (a1 + y9_1) < (a0.length : Int)))) :: (68, .int .i64 (a0.length : Int)) :: (67, .str a0) :: (66, .int .i64 (fW .i64 (a1 + y9_1))) :: (65, .int .i64 y9_1) :: (64, .int .i64 a1) :: (63, .bool true) :: E10)
    refine oR 8 (p' := (atN 11 (ctl1 g41p18))) (eE := E14) (H' := (mkH [])) (by kernel_rfl) ?_
    refine oS 71 (b := decide (fW .i64 (a1 + y9_1) < (a0.length : Int))) (by kernel_rfl) (fun hb => ?_) (fun hb => ?_)
    ·let E15 : Env := ((75, .int .i64 (fW .i64 (a1 + y9_1))) :: (74, .int .i64 y9_1) :: (73, .int .i64 a1) :: (72, .str a0) :: (71, .bool true) :: E14)
     refine oR 4 (p' := (atN 15 (ctl1 g41p18))) (eE := E15) (H' := (mkH [])) (by kernel_rfl) ?_
     refine oH (fun (x5_15 : Int) => (.int .u8 x5_15, (mkH []))) (atN 16 (ctl1 g41p18)) (fun x5_15 => ((76, .int .u8 x5_15) :: E15)) (idxH (by kernel_rfl)) (fun _ => by kernel_rfl) (fun x5_15 hx5_15 => ?_)
     refine oC (fun (x5_16 : Int) => .int .i64 x5_16) (atN 17 (ctl1 g41p18)) (fun x5_16 => ((77, .int .i64 x5_16) :: (76, .int .u8 x5_15) :: E15)) (fi := 75) (args := [.int .u8 x5_15]) (by kernel_rfl) (by kernel_rfl) (fun _ => by kernel_rfl) (fun r h => g75_ok k x5_15 r h) (fun _ => by kernel_rfl) (fun x5_16 hx5_16 => ?_)
     refine oR 3 (p' := g41p20) (eE := ((79, .bool (decide (x5_16 < 8))) :: (78, .bool (decide (x5_16 < 8))) :: (77, .int .i64 x5_16) :: (76, .int .u8 x5_15) :: E15)) (H' := (mkH [])) (by kernel_rfl) ?_
     refine oK [0, 1, 7, 8, 79] (eE := [(0, .str a0), (1, .int .i64 a1), (7, .int .i64 y9_0), (8, .int .i64 y9_1), (79, .bool (decide (x5_16 < 8)))]) (by kernel_rfl) ?_
     exact hj10 (decide (x5_16 < 8), y9_1, y9_0)
    ·let E16 : Env := ((79, .bool false) :: (78, .tuple []) :: (77, .tuple []) :: (76, .tuple []) :: (75, .tuple []) :: (74, .tuple []) :: (73, .tuple []) :: (72, .tuple []) :: (71, .bool false) :: E14)
     refine oR 9 (p' := g41p20) (eE := E16) (H' := (mkH [])) (by kernel_rfl) ?_
     refine oK [0, 1, 7, 8, 79] (eE := [(0, .str a0), (1, .int .i64 a1), (7, .int .i64 y9_0), (8, .int .i64 y9_1), (79, .bool false)]) (by kernel_rfl) ?_
     exact hj10 (false, y9_1, y9_0)
   ·let E17 : Env := ((79, .bool false) :: (78, .tuple []) :: (77, .tuple []) :: (76, .tuple []) :: (75, .tuple []) :: (74, .tuple []) :: (73, .tuple []) :: (72, .tuple []) :: (71, .bool false) :: (70, .bool false) :: (69, .tuple []) :: (68, .tuple []) :: (67, .tuple []) :: (66, .tuple []) :: (65, .tuple []) :: (64, .tuple []) :: (63, .bool false) :: E10)
    refine oR 17 (p' := g41p20) (eE := E17) (H' := (mkH [])) (by kernel_rfl) ?_
    refine oK [0, 1, 7, 8, 79] (eE := [(0, .str a0), (1, .int .i64 a1), (7, .int .i64 y9_0), (8, .int .i64 y9_1), (79, .bool false)]) (by kernel_rfl) ?_
    exact hj10 (false, y9_1, y9_0)
def g41 (k : Nat) (a0 : (List Nat)) (a1 : Int) : Option (Int × Int) :=
 jn (fun (z7 : Bool) => if z7 then (some (((-1) : Int), (0 : Int))) else ((nthS a0 (fW .i64 (a1 + 1))).bind fun x1_3 => if (decide (x1_3 = 120)) then ((g79 k a0 a1).bind fun x2_2 => some (x2_2.1, x2_2.2)) else (if (decide (x1_3 = 94)) then ((g80 k a0 a1).bind fun x3_2 => some (x3_2.1, x3_2.2)) else (jn (fun (z8 : Bool) => if z8 then (g41_l9 k a0 a1 k 0 1) else (if (decide (x1_3 = 98)) then (some ((8 : Int), (2 : Int))) else (if (decide (x1_3 = 100)) then (some ((127 : Int), (2 : Int))) else (if (decide (x1_3 = 101)) then (some ((27 : Int), (2 : Int))) else (if (decide (x1_3 = 102)) then (some ((12 : Int), (2 : Int))) else (if (decide (x1_3 = 110)) then (some ((10 : Int), (2 : Int))) else (if (decide (x1_3 = 114)) then (some ((13 : Int), (2 : Int))) else (if (decide (x1_3 = 115)) then (some ((32 : Int), (2 : Int))) else (if (decide (x1_3 = 116)) then (some ((9 : Int), (2 : Int))) else (if (decide (x1_3 = 118)) then (some ((11 : Int), (2 : Int))) else ((g78 k a0 (fW .i64 (a1 + 1))).bind fun x4_3 => if (decide (x4_3.1 < 32)) then (some (((-1) : Int), (0 : Int))) else (some (x4_3.1, fW .i64 (x4_3.2 + 1)))))))))))))) (fun j8 => if (decide (48 ≤ x1_3)) then (j8 (decide (x1_3 ≤ 55))) else (j8 false)))))) (fun j7 => if (decide (a1 < 0)) then (j7 true) else (if (decide ((a0.length : Int) ≤ a1)) then (j7 true) else ((nthS a0 a1).bind fun x0_11 => if (!decide (x0_11 = 92)) then (j7 true) else (j7 (decide ((a0.length : Int) ≤ fW .i64 (a1 + 1)))))))
theorem g41_ok (k : Nat) (a0 : (List Nat)) (a1 : Int) (r : (Int × Int)) (h : g41 k a0 a1 = some r) : PureOk Try.prog 41 [.str a0, .int .i64 a1] (.tuple [.int .i64 r.1, .int .i64 r.2]) := by
 refine pure_of X41 (fun _ => rfl) Try.func41 (by decide +kernel) (by kernel_rfl) (t := g41 k a0 a1) ?_ h
 unfold g41
 refine oE (eE := [(0, .str a0), (1, .int .i64 a1)]) (by kernel_rfl) ?_
 let E1 : Env := [(15, .bool (decide (a1 < 0))), (14, .bool (decide (a1 < 0))), (13, .int .i64 a1), (5, .int .i64 0), (4, .int .i64 0), (0, .str a0), (1, .int .i64 a1)]
 refine oR 11 (p' := (atN 3 (ctl1 g41p1))) (eE := E1) (H' := (mkH [])) (by kernel_rfl) ?_
 refine oJ (f := fun (z7 : Bool) => if z7 then (some (((-1) : Int), (0 : Int))) else ((nthS a0 (fW .i64 (a1 + 1))).bind fun x1_3 => if (decide (x1_3 = 120)) then ((g79 k a0 a1).bind fun x2_2 => some (x2_2.1, x2_2.2)) else (if (decide (x1_3 = 94)) then ((g80 k a0 a1).bind fun x3_2 => some (x3_2.1, x3_2.2)) else (jn (fun (z8 : Bool) => if z8 then (g41_l9 k a0 a1 k 0 1) else (if (decide (x1_3 = 98)) then (some ((8 : Int), (2 : Int))) else (if (decide (x1_3 = 100)) then (some ((127 : Int), (2 : Int))) else (if (decide (x1_3 = 101)) then (some ((27 : Int), (2 : Int))) else (if (decide (x1_3 = 102)) then (some ((12 : Int), (2 : Int))) else (if (decide (x1_3 = 110)) then (some ((10 : Int), (2 : Int))) else (if (decide (x1_3 = 114)) then (some ((13 : Int), (2 : Int))) else (if (decide (x1_3 = 115)) then (some ((32 : Int), (2 : Int))) else (if (decide (x1_3 = 116)) then (some ((9 : Int), (2 : Int))) else (if (decide (x1_3 = 118)) then (some ((11 : Int), (2 : Int))) else ((g78 k a0 (fW .i64 (a1 + 1))).bind fun x4_3 => if (decide (x4_3.1 < 32)) then (some (((-1) : Int), (0 : Int))) else (some (x4_3.1, fW .i64 (x4_3.2 + 1)))))))))))))) (fun j8 => if (decide (48 ≤ x1_3)) then (j8 (decide (x1_3 ≤ 55))) else (j8 false)))))) g41p2 (fun (z7 : Bool) => [(0, .str a0), (1, .int .i64 a1), (33, .bool z7)]) (fun (z7 : Bool) => (mkH [])) (fun z7 => ?_) (fun j7 hj7 => ?_)
 ·refine oS 33 (b := z7) (by kernel_rfl) (fun hb => ?_) (fun hb => ?_)
  ·let E2 : Env := [(5, .int .i64 0), (4, .int .i64 (-1)), (33, .bool true), (0, .str a0), (1, .int .i64 a1), (33, .bool z7)]
   refine oR 7 (p' := .fin) (eE := E2) (H' := (mkH [])) (by kernel_rfl) ?_
   exact oT (r := (((-1) : Int), (0 : Int))) (xs := [.int .i64 (-1), .int .i64 0]) (v := .tuple [.int .i64 (-1), .int .i64 0]) (by kernel_rfl) (by kernel_rfl) (by kernel_rfl) (.pures (by kernel_rfl)) (by kernel_rfl)
  ·let E3 : Env := [(36, .int .i64 (fW .i64 (a1 + 1))), (35, .int .i64 a1), (34, .str a0), (33, .bool false), (0, .str a0), (1, .int .i64 a1), (33, .bool z7)]
   refine oR 7 (p' := (atN 3 (ctl1 g41p4))) (eE := E3) (H' := (mkH [])) (by kernel_rfl) ?_
   refine oH (fun (x1_3 : Int) => (.int .u8 x1_3, (mkH []))) (atN 4 (ctl1 g41p4)) (fun x1_3 => ((37, .int .u8 x1_3) :: E3)) (idxH (by kernel_rfl)) (fun _ => by kernel_rfl) (fun x1_3 hx1_3 => ?_)
   let E4 : Env := ((38, .bool (decide (x1_3 = 120))) :: (40, .bool (decide (x1_3 = 120))) :: (39, .int .u8 x1_3) :: (6, .int .u8 x1_3) :: (37, .int .u8 x1_3) :: E3)
   refine oR 10 (p' := g41p7) (eE := E4) (H' := (mkH [])) (by kernel_rfl) ?_
   refine oK [0, 1, 6, 38] (eE := [(0, .str a0), (1, .int .i64 a1), (6, .int .u8 x1_3), (38, .bool (decide (x1_3 = 120)))]) (by kernel_rfl) ?_
   refine oS 38 (b := decide (x1_3 = 120)) (by kernel_rfl) (fun hb => ?_) (fun hb => ?_)
   ·let E5 : Env := [(42, .int .i64 a1), (41, .str a0), (38, .bool true), (0, .str a0), (1, .int .i64 a1), (6, .int .u8 x1_3), (38, .bool (decide (x1_3 = 120)))]
    refine oR 5 (p' := (atN 2 (ctl1 g41p8))) (eE := E5) (H' := (mkH [])) (by kernel_rfl) ?_
    refine oC (fun (x2_2 : (Int × Int)) => .tuple [.int .i64 x2_2.1, .int .i64 x2_2.2]) (atN 3 (ctl1 g41p8)) (fun x2_2 => ((43, .tuple [.int .i64 x2_2.1, .int .i64 x2_2.2]) :: E5)) (fi := 79) (args := [.str a0, .int .i64 a1]) (by kernel_rfl) (by kernel_rfl) (fun _ => by kernel_rfl) (fun r h => g79_ok k a0 a1 r h) (fun _ => by kernel_rfl) (fun x2_2 hx2_2 => ?_)
    let E6 : Env := ((5, .int .i64 x2_2.2) :: (4, .int .i64 x2_2.1) :: (45, .int .i64 x2_2.2) :: (44, .int .i64 x2_2.1) :: (43, .tuple [.int .i64 x2_2.1, .int .i64 x2_2.2]) :: E5)
    refine oR 6 (p' := .fin) (eE := E6) (H' := (mkH [])) (by kernel_rfl) ?_
    exact oT (r := (x2_2.1, x2_2.2)) (xs := [.int .i64 x2_2.1, .int .i64 x2_2.2]) (v := .tuple [.int .i64 x2_2.1, .int .i64 x2_2.2]) (by kernel_rfl) (by kernel_rfl) (by kernel_rfl) (.pures (by kernel_rfl)) (by kernel_rfl)
   ·let E7 : Env := [(46, .bool (decide (x1_3 = 94))), (48, .bool (decide (x1_3 = 94))), (47, .int .u8 x1_3), (38, .bool false), (0, .str a0), (1, .int .i64 a1), (6, .int .u8 x1_3), (38, .bool (decide (x1_3 = 120)))]
    refine oR 7 (p' := g41p10) (eE := E7) (H' := (mkH [])) (by kernel_rfl) ?_
    refine oS 46 (b := decide (x1_3 = 94)) (by kernel_rfl) (fun hb => ?_) (fun hb => ?_)
    ·refine oR 5 (p' := (atN 2 (ctl1 g41p11))) (eE := ((50, .int .i64 a1) :: (49, .str a0) :: (46, .bool true) :: E7)) (H' := (mkH [])) (by kernel_rfl) ?_
     refine oC (fun (x3_2 : (Int × Int)) => .tuple [.int .i64 x3_2.1, .int .i64 x3_2.2]) (atN 3 (ctl1 g41p11)) (fun x3_2 => ((51, .tuple [.int .i64 x3_2.1, .int .i64 x3_2.2]) :: (50, .int .i64 a1) :: (49, .str a0) :: (46, .bool true) :: E7)) (fi := 80) (args := [.str a0, .int .i64 a1]) (by kernel_rfl) (by kernel_rfl) (fun _ => by kernel_rfl) (fun r h => g80_ok k a0 a1 r h) (fun _ => by kernel_rfl) (fun x3_2 hx3_2 => ?_)
     let E8 : Env := ((5, .int .i64 x3_2.2) :: (4, .int .i64 x3_2.1) :: (53, .int .i64 x3_2.2) :: (52, .int .i64 x3_2.1) :: (51, .tuple [.int .i64 x3_2.1, .int .i64 x3_2.2]) :: (50, .int .i64 a1) :: (49, .str a0) :: (46, .bool true) :: E7)
     refine oR 6 (p' := .fin) (eE := E8) (H' := (mkH [])) (by kernel_rfl) ?_
     exact oT (r := (x3_2.1, x3_2.2)) (xs := [.int .i64 x3_2.1, .int .i64 x3_2.2]) (v := .tuple [.int .i64 x3_2.1, .int .i64 x3_2.2]) (by kernel_rfl) (by kernel_rfl) (by kernel_rfl) (.pures (by kernel_rfl)) (by kernel_rfl)
    ·refine oR 6 (p' := (atN 3 (ctl1 g41p12))) (eE := ((57, .bool (decide (48 ≤ x1_3))) :: (56, .bool (decide (48 ≤ x1_3))) :: (55, .int .u8 x1_3) :: (46, .bool false) :: E7)) (H' := (mkH [])) (by kernel_rfl) ?_
     refine oJ (f := fun (z8 : Bool) => if z8 then (g41_l9 k a0 a1 k 0 1) else (if (decide (x1_3 = 98)) then (some ((8 : Int), (2 : Int))) else (if (decide (x1_3 = 100)) then (some ((127 : Int), (2 : Int))) else (if (decide (x1_3 = 101)) then (some ((27 : Int), (2 : Int))) else (if (decide (x1_3 = 102)) then (some ((12 : Int), (2 : Int))) else (if (decide (x1_3 = 110)) then (some ((10 : Int), (2 : Int))) else (if (decide (x1_3 = 114)) then (some ((13 : Int), (2 : Int))) else (if (decide (x1_3 = 115)) then (some ((32 : Int), (2 : Int))) else (if (decide (x1_3 = 116)) then (some ((9 : Int), (2 : Int))) else (if (decide (x1_3 = 118)) then (some ((11 : Int), (2 : Int))) else ((g78 k a0 (fW .i64 (a1 + 1))).bind fun x4_3 => if (decide (x4_3.1 < 32)) then (some (((-1) : Int), (0 : Int))) else (some (x4_3.1, fW .i64 (x4_3.2 + 1)))))))))))))) g41p13 (fun (z8 : Bool) => [(0, .str a0), (1, .int .i64 a1), (6, .int .u8 x1_3), (54, .bool z8)]) (fun (z8 : Bool) => (mkH [])) (fun z8 => ?_) (fun j8 hj8 => ?_)
     ·refine oS 54 (b := z8) (by kernel_rfl) (fun hb => ?_) (fun hb => ?_)
      ·let E9 : Env := [(8, .int .i64 1), (7, .int .i64 0), (54, .bool true), (0, .str a0), (1, .int .i64 a1), (6, .int .u8 x1_3), (54, .bool z8)]
       refine oR 9 (p' := g41p16) (eE := E9) (H' := (mkH [])) (by kernel_rfl) ?_
       refine oK [0, 1, 7, 8] (eE := [(0, .str a0), (1, .int .i64 a1), (7, .int .i64 0), (8, .int .i64 1)]) (by kernel_rfl) ?_
       exact (g41_l9_ok k a0 a1 k) 0 1
      ·let E18 : Env := [(54, .bool false), (0, .str a0), (1, .int .i64 a1), (6, .int .u8 x1_3), (54, .bool z8)]
       refine oR 5 (p' := (atN 0 (ctl1 g41p15))) (eE := E18) (H' := (mkH [])) (by kernel_rfl) ?_
       refine ok_range 93 (⟨#[98, 100, 101, 102, 110, 114, 115, 116, 118]⟩ : ByteArray) (by kernel_rfl) ?_
       refine okI_at (p' := (atN 1 (ctl1 g41p15))) (by kernel_rfl) ?_
       refine oI 3 (p' := g41p17) (eE := ((93, .top) :: E18)) (H' := (mkH [])) (by kernel_rfl) ?_
       refine okI_ent (p' := nav [0] g41p17) (by kernel_rfl) ?_
       refine oI 2 (p' := (atN 0 (ctl1 g41p19))) (eE := ((93, .top) :: E18)) (H' := (mkH [])) (by kernel_rfl) ?_
       refine okI_next 94 (by kernel_rfl) rfl 98 1 (by kernel_rfl) ?_
       refine okI_at (p' := (atN 1 (ctl1 g41p19))) (by kernel_rfl) ?_
       let E19 : Env := ((101, .bool (decide (x1_3 = 98))) :: (100, .int .u8 98) :: (99, .int .i32 98) :: (98, .int .u8 x1_3) :: (10, .int .i32 98) :: (9, .int .i64 0) :: (97, .int .i32 98) :: (96, .int .i64 0) :: (95, .bool true) :: (94, .tuple [.bool true, .int .i64 0, .int .i32 98]) :: (93, .top) :: E18)
       refine oI 20 (p' := g41p29) (eE := E19) (H' := (mkH [])) (by kernel_rfl) ?_
       refine okI_split 101 (b := decide (x1_3 = 98)) (by kernel_rfl) (fun hb => ?_) (fun hb => ?_)
       ·let E20 : Env := ((5, .int .i64 2) :: (4, .int .i64 8) :: (104, .int .i64 8) :: (103, .int .i64 0) :: (102, .agg [.int .i64 8, .int .i64 127, .int .i64 27, .int .i64 12, .int .i64 10, .int .i64 13, .int .i64 32, .int .i64 9, .int .i64 11]) :: (101, .bool true) :: E19)
        refine oI 10 (p' := .fin) (eE := E20) (H' := (mkH [])) (by kernel_rfl) ?_
        refine okI_drop ?_
        exact oT (r := ((8 : Int), (2 : Int))) (xs := [.int .i64 8, .int .i64 2]) (v := .tuple [.int .i64 8, .int .i64 2]) (by kernel_rfl) (by kernel_rfl) (by kernel_rfl) (.pures (by kernel_rfl)) (by kernel_rfl)
       ·refine oI 2 (p' := g41p17) (eE := ((101, .bool false) :: E19)) (H' := (mkH [])) (by kernel_rfl) ?_
        refine okI_ent (p' := nav [0] g41p17) (by kernel_rfl) ?_
        refine oI 2 (p' := (atN 0 (ctl1 g41p19))) (eE := ((101, .bool false) :: E19)) (H' := (mkH [])) (by kernel_rfl) ?_
        refine okI_next 94 (by kernel_rfl) rfl 100 1 (by kernel_rfl) ?_
        refine okI_at (p' := (atN 1 (ctl1 g41p19))) (by kernel_rfl) ?_
        let E21 : Env := ((101, .bool (decide (x1_3 = 100))) :: (100, .int .u8 100) :: (99, .int .i32 100) :: (98, .int .u8 x1_3) :: (10, .int .i32 100) :: (9, .int .i64 1) :: (97, .int .i32 100) :: (96, .int .i64 1) :: (95, .bool true) :: (94, .tuple [.bool true, .int .i64 1, .int .i32 100]) :: (101, .bool false) :: E19)
        refine oI 20 (p' := g41p29) (eE := E21) (H' := (mkH [])) (by kernel_rfl) ?_
        refine okI_split 101 (b := decide (x1_3 = 100)) (by kernel_rfl) (fun hb => ?_) (fun hb => ?_)
        ·let E22 : Env := ((5, .int .i64 2) :: (4, .int .i64 127) :: (104, .int .i64 127) :: (103, .int .i64 1) :: (102, .agg [.int .i64 8, .int .i64 127, .int .i64 27, .int .i64 12, .int .i64 10, .int .i64 13, .int .i64 32, .int .i64 9, .int .i64 11]) :: (101, .bool true) :: E21)
         refine oI 10 (p' := .fin) (eE := E22) (H' := (mkH [])) (by kernel_rfl) ?_
         refine okI_drop ?_
         exact oT (r := ((127 : Int), (2 : Int))) (xs := [.int .i64 127, .int .i64 2]) (v := .tuple [.int .i64 127, .int .i64 2]) (by kernel_rfl) (by kernel_rfl) (by kernel_rfl) (.pures (by kernel_rfl)) (by kernel_rfl)
        ·refine oI 2 (p' := g41p17) (eE := ((101, .bool false) :: E21)) (H' := (mkH [])) (by kernel_rfl) ?_
         refine okI_ent (p' := nav [0] g41p17) (by kernel_rfl) ?_
         refine oI 2 (p' := (atN 0 (ctl1 g41p19))) (eE := ((101, .bool false) :: E21)) (H' := (mkH [])) (by kernel_rfl) ?_
         refine okI_next 94 (by kernel_rfl) rfl 101 1 (by kernel_rfl) ?_
         refine okI_at (p' := (atN 1 (ctl1 g41p19))) (by kernel_rfl) ?_
         let E23 : Env := ((101, .bool (decide (x1_3 = 101))) :: (100, .int .u8 101) :: (99, .int .i32 101) :: (98, .int .u8 x1_3) :: (10, .int .i32 101) :: (9, .int .i64 2) :: (97, .int .i32 101) :: (96, .int .i64 2) :: (95, .bool true) :: (94, .tuple [.bool true, .int .i64 2, .int .i32 101]) :: (101, .bool false) :: E21)
         refine oI 20 (p' := g41p29) (eE := E23) (H' := (mkH [])) (by kernel_rfl) ?_
         refine okI_split 101 (b := decide (x1_3 = 101)) (by kernel_rfl) (fun hb => ?_) (fun hb => ?_)
         ·let E24 : Env := ((5, .int .i64 2) :: (4, .int .i64 27) :: (104, .int .i64 27) :: (103, .int .i64 2) :: (102, .agg [.int .i64 8, .int .i64 127, .int .i64 27, .int .i64 12, .int .i64 10, .int .i64 13, .int .i64 32, .int .i64 9, .int .i64 11]) :: (101, .bool true) :: E23)
          refine oI 10 (p' := .fin) (eE := E24) (H' := (mkH [])) (by kernel_rfl) ?_
          refine okI_drop ?_
          exact oT (r := ((27 : Int), (2 : Int))) (xs := [.int .i64 27, .int .i64 2]) (v := .tuple [.int .i64 27, .int .i64 2]) (by kernel_rfl) (by kernel_rfl) (by kernel_rfl) (.pures (by kernel_rfl)) (by kernel_rfl)
         ·refine oI 2 (p' := g41p17) (eE := ((101, .bool false) :: E23)) (H' := (mkH [])) (by kernel_rfl) ?_
          refine okI_ent (p' := nav [0] g41p17) (by kernel_rfl) ?_
          refine oI 2 (p' := (atN 0 (ctl1 g41p19))) (eE := ((101, .bool false) :: E23)) (H' := (mkH [])) (by kernel_rfl) ?_
          refine okI_next 94 (by kernel_rfl) rfl 102 1 (by kernel_rfl) ?_
          refine okI_at (p' := (atN 1 (ctl1 g41p19))) (by kernel_rfl) ?_
          let E25 : Env := ((101, .bool (decide (x1_3 = 102))) :: (100, .int .u8 102) :: (99, .int .i32 102) :: (98, .int .u8 x1_3) :: (10, .int .i32 102) :: (9, .int .i64 3) :: (97, .int .i32 102) :: (96, .int .i64 3) :: (95, .bool true) :: (94, .tuple [.bool true, .int .i64 3, .int .i32 102]) :: (101, .bool false) :: E23)
          refine oI 20 (p' := g41p29) (eE := E25) (H' := (mkH [])) (by kernel_rfl) ?_
          refine okI_split 101 (b := decide (x1_3 = 102)) (by kernel_rfl) (fun hb => ?_) (fun hb => ?_)
          ·let E26 : Env := ((5, .int .i64 2) :: (4, .int .i64 12) :: (104, .int .i64 12) :: (103, .int .i64 3) :: (102, .agg [.int .i64 8, .int .i64 127, .int .i64 27, .int .i64 12, .int .i64 10, .int .i64 13, .int .i64 32, .int .i64 9, .int .i64 11]) :: (101, .bool true) :: E25)
           refine oI 10 (p' := .fin) (eE := E26) (H' := (mkH [])) (by kernel_rfl) ?_
           refine okI_drop ?_
           exact oT (r := ((12 : Int), (2 : Int))) (xs := [.int .i64 12, .int .i64 2]) (v := .tuple [.int .i64 12, .int .i64 2]) (by kernel_rfl) (by kernel_rfl) (by kernel_rfl) (.pures (by kernel_rfl)) (by kernel_rfl)
          ·refine oI 2 (p' := g41p17) (eE := ((101, .bool false) :: E25)) (H' := (mkH [])) (by kernel_rfl) ?_
           refine okI_ent (p' := nav [0] g41p17) (by kernel_rfl) ?_
           refine oI 2 (p' := (atN 0 (ctl1 g41p19))) (eE := ((101, .bool false) :: E25)) (H' := (mkH [])) (by kernel_rfl) ?_
           refine okI_next 94 (by kernel_rfl) rfl 110 1 (by kernel_rfl) ?_
           refine okI_at (p' := (atN 1 (ctl1 g41p19))) (by kernel_rfl) ?_
           let E27 : Env := ((101, .bool (decide (x1_3 = 110))) :: (100, .int .u8 110) :: (99, .int .i32 110) :: (98, .int .u8 x1_3) :: (10, .int .i32 110) :: (9, .int .i64 4) :: (97, .int .i32 110) :: (96, .int .i64 4) :: (95, .bool true) :: (94, .tuple [.bool true, .int .i64 4, .int .i32 110]) :: (101, .bool false) :: E25)
           refine oI 20 (p' := g41p29) (eE := E27) (H' := (mkH [])) (by kernel_rfl) ?_
           refine okI_split 101 (b := decide (x1_3 = 110)) (by kernel_rfl) (fun hb => ?_) (fun hb => ?_)
           ·let E28 : Env := ((5, .int .i64 2) :: (4, .int .i64 10) :: (104, .int .i64 10) :: (103, .int .i64 4) :: (102, .agg [.int .i64 8, .int .i64 127, .int .i64 27, .int .i64 12, .int .i64 10, .int .i64 13, .int .i64 32, .int .i64 9, .int .i64 11]) :: (101, .bool true) :: E27)
            refine oI 10 (p' := .fin) (eE := E28) (H' := (mkH [])) (by kernel_rfl) ?_
            refine okI_drop ?_
            exact oT (r := ((10 : Int), (2 : Int))) (xs := [.int .i64 10, .int .i64 2]) (v := .tuple [.int .i64 10, .int .i64 2]) (by kernel_rfl) (by kernel_rfl) (by kernel_rfl) (.pures (by kernel_rfl)) (by kernel_rfl)
           ·refine oI 2 (p' := g41p17) (eE := ((101, .bool false) :: E27)) (H' := (mkH [])) (by kernel_rfl) ?_
            refine okI_ent (p' := nav [0] g41p17) (by kernel_rfl) ?_
            refine oI 2 (p' := (atN 0 (ctl1 g41p19))) (eE := ((101, .bool false) :: E27)) (H' := (mkH [])) (by kernel_rfl) ?_
            refine okI_next 94 (by kernel_rfl) rfl 114 1 (by kernel_rfl) ?_
            refine okI_at (p' := (atN 1 (ctl1 g41p19))) (by kernel_rfl) ?_
            let E29 : Env := ((101, .bool (decide (x1_3 = 114))) :: (100, .int .u8 114) :: (99, .int .i32 114) :: (98, .int .u8 x1_3) :: (10, .int .i32 114) :: (9, .int .i64 5) :: (97, .int .i32 114) :: (96, .int .i64 5) :: (95, .bool true) :: (94, .tuple [.bool true, .int .i64 5, .int .i32 114]) :: (101, .bool false) :: E27)
            refine oI 20 (p' := g41p29) (eE := E29) (H' := (mkH [])) (by kernel_rfl) ?_
            refine okI_split 101 (b := decide (x1_3 = 114)) (by kernel_rfl) (fun hb => ?_) (fun hb => ?_)
            ·let E30 : Env := ((5, .int .i64 2) :: (4, .int .i64 13) :: (104, .int .i64 13) :: (103, .int .i64 5) :: (102, .agg [.int .i64 8, .int .i64 127, .int .i64 27, .int .i64 12, .int .i64 10, .int .i64 13, .int .i64 32, .int .i64 9, .int .i64 11]) :: (101, .bool true) :: E29)
             refine oI 10 (p' := .fin) (eE := E30) (H' := (mkH [])) (by kernel_rfl) ?_
             refine okI_drop ?_
             exact oT (r := ((13 : Int), (2 : Int))) (xs := [.int .i64 13, .int .i64 2]) (v := .tuple [.int .i64 13, .int .i64 2]) (by kernel_rfl) (by kernel_rfl) (by kernel_rfl) (.pures (by kernel_rfl)) (by kernel_rfl)
            ·refine oI 2 (p' := g41p17) (eE := ((101, .bool false) :: E29)) (H' := (mkH [])) (by kernel_rfl) ?_
             refine okI_ent (p' := nav [0] g41p17) (by kernel_rfl) ?_
             refine oI 2 (p' := (atN 0 (ctl1 g41p19))) (eE := ((101, .bool false) :: E29)) (H' := (mkH [])) (by kernel_rfl) ?_
             refine okI_next 94 (by kernel_rfl) rfl 115 1 (by kernel_rfl) ?_
             refine okI_at (p' := (atN 1 (ctl1 g41p19))) (by kernel_rfl) ?_
             let E31 : Env := ((101, .bool (decide (x1_3 = 115))) :: (100, .int .u8 115) :: (99, .int .i32 115) :: (98, .int .u8 x1_3) :: (10, .int .i32 115) :: (9, .int .i64 6) :: (97, .int .i32 115) :: (96, .int .i64 6) :: (95, .bool true) :: (94, .tuple [.bool true, .int .i64 6, .int .i32 115]) :: (101, .bool false) :: E29)
             refine oI 20 (p' := g41p29) (eE := E31) (H' := (mkH [])) (by kernel_rfl) ?_
             refine okI_split 101 (b := decide (x1_3 = 115)) (by kernel_rfl) (fun hb => ?_) (fun hb => ?_)
             ·let E32 : Env := ((5, .int .i64 2) :: (4, .int .i64 32) :: (104, .int .i64 32) :: (103, .int .i64 6) :: (102, .agg [.int .i64 8, .int .i64 127, .int .i64 27, .int .i64 12, .int .i64 10, .int .i64 13, .int .i64 32, .int .i64 9, .int .i64 11]) :: (101, .bool true) :: E31)
              refine oI 10 (p' := .fin) (eE := E32) (H' := (mkH [])) (by kernel_rfl) ?_
              refine okI_drop ?_
              exact oT (r := ((32 : Int), (2 : Int))) (xs := [.int .i64 32, .int .i64 2]) (v := .tuple [.int .i64 32, .int .i64 2]) (by kernel_rfl) (by kernel_rfl) (by kernel_rfl) (.pures (by kernel_rfl)) (by kernel_rfl)
             ·refine oI 2 (p' := g41p17) (eE := ((101, .bool false) :: E31)) (H' := (mkH [])) (by kernel_rfl) ?_
              refine okI_ent (p' := nav [0] g41p17) (by kernel_rfl) ?_
              refine oI 2 (p' := (atN 0 (ctl1 g41p19))) (eE := ((101, .bool false) :: E31)) (H' := (mkH [])) (by kernel_rfl) ?_
              refine okI_next 94 (by kernel_rfl) rfl 116 1 (by kernel_rfl) ?_
              refine okI_at (p' := (atN 1 (ctl1 g41p19))) (by kernel_rfl) ?_
              let E33 : Env := ((101, .bool (decide (x1_3 = 116))) :: (100, .int .u8 116) :: (99, .int .i32 116) :: (98, .int .u8 x1_3) :: (10, .int .i32 116) :: (9, .int .i64 7) :: (97, .int .i32 116) :: (96, .int .i64 7) :: (95, .bool true) :: (94, .tuple [.bool true, .int .i64 7, .int .i32 116]) :: (101, .bool false) :: E31)
              refine oI 20 (p' := g41p29) (eE := E33) (H' := (mkH [])) (by kernel_rfl) ?_
              refine okI_split 101 (b := decide (x1_3 = 116)) (by kernel_rfl) (fun hb => ?_) (fun hb => ?_)
              ·let E34 : Env := ((5, .int .i64 2) :: (4, .int .i64 9) :: (104, .int .i64 9) :: (103, .int .i64 7) :: (102, .agg [.int .i64 8, .int .i64 127, .int .i64 27, .int .i64 12, .int .i64 10, .int .i64 13, .int .i64 32, .int .i64 9, .int .i64 11]) :: (101, .bool true) :: E33)
               refine oI 10 (p' := .fin) (eE := E34) (H' := (mkH [])) (by kernel_rfl) ?_
               refine okI_drop ?_
               exact oT (r := ((9 : Int), (2 : Int))) (xs := [.int .i64 9, .int .i64 2]) (v := .tuple [.int .i64 9, .int .i64 2]) (by kernel_rfl) (by kernel_rfl) (by kernel_rfl) (.pures (by kernel_rfl)) (by kernel_rfl)
              ·refine oI 2 (p' := g41p17) (eE := ((101, .bool false) :: E33)) (H' := (mkH [])) (by kernel_rfl) ?_
               refine okI_ent (p' := nav [0] g41p17) (by kernel_rfl) ?_
               refine oI 2 (p' := (atN 0 (ctl1 g41p19))) (eE := ((101, .bool false) :: E33)) (H' := (mkH [])) (by kernel_rfl) ?_
               refine okI_next 94 (by kernel_rfl) rfl 118 1 (by kernel_rfl) ?_
               refine okI_at (p' := (atN 1 (ctl1 g41p19))) (by kernel_rfl) ?_
               let E35 : Env := ((101, .bool (decide (x1_3 = 118))) :: (100, .int .u8 118) :: (99, .int .i32 118) :: (98, .int .u8 x1_3) :: (10, .int .i32 118) :: (9, .int .i64 8) :: (97, .int .i32 118) :: (96, .int .i64 8) :: (95, .bool true) :: (94, .tuple [.bool true, .int .i64 8, .int .i32 118]) :: (101, .bool false) :: E33)
               refine oI 20 (p' := g41p29) (eE := E35) (H' := (mkH [])) (by kernel_rfl) ?_
               refine okI_split 101 (b := decide (x1_3 = 118)) (by kernel_rfl) (fun hb => ?_) (fun hb => ?_)
               ·let E36 : Env := ((5, .int .i64 2) :: (4, .int .i64 11) :: (104, .int .i64 11) :: (103, .int .i64 8) :: (102, .agg [.int .i64 8, .int .i64 127, .int .i64 27, .int .i64 12, .int .i64 10, .int .i64 13, .int .i64 32, .int .i64 9, .int .i64 11]) :: (101, .bool true) :: E35)
                refine oI 10 (p' := .fin) (eE := E36) (H' := (mkH [])) (by kernel_rfl) ?_
                refine okI_drop ?_
                exact oT (r := ((11 : Int), (2 : Int))) (xs := [.int .i64 11, .int .i64 2]) (v := .tuple [.int .i64 11, .int .i64 2]) (by kernel_rfl) (by kernel_rfl) (by kernel_rfl) (.pures (by kernel_rfl)) (by kernel_rfl)
               ·refine oI 2 (p' := g41p17) (eE := ((101, .bool false) :: E35)) (H' := (mkH [])) (by kernel_rfl) ?_
                refine okI_ent (p' := nav [0] g41p17) (by kernel_rfl) ?_
                refine oI 2 (p' := (atN 0 (ctl1 g41p19))) (eE := ((101, .bool false) :: E35)) (H' := (mkH [])) (by kernel_rfl) ?_
                refine okI_over 94 (by kernel_rfl) rfl ?_
                refine okI_drop ?_
                refine ok_at (p' := (atN 1 (ctl1 g41p19))) (by kernel_rfl) ?_
                refine oR 3 (p' := g41p21) (eE := ((95, .bool false) :: (94, .tuple [.bool false]) :: (101, .bool false) :: E35)) (H' := (mkH [])) (by kernel_rfl) ?_
                refine oK [0, 1, 6, 94, 95] (eE := [(0, .str a0), (1, .int .i64 a1), (6, .int .u8 x1_3), (94, .tuple [.bool false]), (95, .bool false)]) (by kernel_rfl) ?_
                let E37 : Env := [(108, .int .i64 (fW .i64 (a1 + 1))), (107, .int .i64 a1), (106, .str a0), (0, .str a0), (1, .int .i64 a1), (6, .int .u8 x1_3), (94, .tuple [.bool false]), (95, .bool false)]
                refine oR 7 (p' := (atN 3 (ctl1 g41p25))) (eE := E37) (H' := (mkH [])) (by kernel_rfl) ?_
                refine oC (fun (x4_3 : (Int × Int)) => .tuple [.int .i64 x4_3.1, .int .i64 x4_3.2]) (atN 4 (ctl1 g41p25)) (fun x4_3 => ((109, .tuple [.int .i64 x4_3.1, .int .i64 x4_3.2]) :: E37)) (fi := 78) (args := [.str a0, .int .i64 (fW .i64 (a1 + 1))]) (by kernel_rfl) (by kernel_rfl) (fun _ => by kernel_rfl) (fun r h => g78_ok k a0 (fW .i64 (a1 + 1)) r h) (fun _ => by kernel_rfl) (fun x4_3 hx4_3 => ?_)
                let E38 : Env := ((12, .int .i64 x4_3.2) :: (11, .int .i64 x4_3.1) :: (111, .int .i64 x4_3.2) :: (110, .int .i64 x4_3.1) :: (105, .tuple [.int .i64 x4_3.1, .int .i64 x4_3.2]) :: (109, .tuple [.int .i64 x4_3.1, .int .i64 x4_3.2]) :: E37)
                refine oR 8 (p' := g41p28) (eE := E38) (H' := (mkH [])) (by kernel_rfl) ?_
                refine oK [11, 12] (eE := [(11, .int .i64 x4_3.1), (12, .int .i64 x4_3.2)]) (by kernel_rfl) ?_
                refine oR 4 (p' := g41p30) (eE := [(113, .bool (decide (x4_3.1 < 32))), (112, .int .i64 x4_3.1), (11, .int .i64 x4_3.1), (12, .int .i64 x4_3.2)]) (H' := (mkH [])) (by kernel_rfl) ?_
                refine oS 113 (b := decide (x4_3.1 < 32)) (by kernel_rfl) (fun hb => ?_) (fun hb => ?_)
                ·let E39 : Env := [(5, .int .i64 0), (4, .int .i64 (-1)), (113, .bool true), (113, .bool (decide (x4_3.1 < 32))), (112, .int .i64 x4_3.1), (11, .int .i64 x4_3.1), (12, .int .i64 x4_3.2)]
                 refine oR 7 (p' := .fin) (eE := E39) (H' := (mkH [])) (by kernel_rfl) ?_
                 exact oT (r := (((-1) : Int), (0 : Int))) (xs := [.int .i64 (-1), .int .i64 0]) (v := .tuple [.int .i64 (-1), .int .i64 0]) (by kernel_rfl) (by kernel_rfl) (by kernel_rfl) (.pures (by kernel_rfl)) (by kernel_rfl)
                ·let E40 : Env := [(5, .int .i64 (fW .i64 (x4_3.2 + 1))), (4, .int .i64 x4_3.1), (116, .int .i64 (fW .i64 (x4_3.2 + 1))), (115, .int .i64 x4_3.2), (114, .int .i64 x4_3.1), (113, .bool false), (113, .bool (decide (x4_3.1 < 32))), (112, .int .i64 x4_3.1), (11, .int .i64 x4_3.1), (12, .int .i64 x4_3.2)]
                 refine oR 11 (p' := .fin) (eE := E40) (H' := (mkH [])) (by kernel_rfl) ?_
                 exact oT (r := (x4_3.1, fW .i64 (x4_3.2 + 1))) (xs := [.int .i64 x4_3.1, .int .i64 (fW .i64 (x4_3.2 + 1))]) (v := .tuple [.int .i64 x4_3.1, .int .i64 (fW .i64 (x4_3.2 + 1))]) (by kernel_rfl) (by kernel_rfl) (by kernel_rfl) (.pures (by kernel_rfl)) (by kernel_rfl)
     ·refine oS 57 (b := decide (48 ≤ x1_3)) (by kernel_rfl) (fun hb => ?_) (fun hb => ?_)
      ·let E41 : Env := ((54, .bool (decide (x1_3 ≤ 55))) :: (60, .bool (decide (x1_3 ≤ 55))) :: (59, .bool (decide (x1_3 ≤ 55))) :: (58, .int .u8 x1_3) :: (57, .bool true) :: (57, .bool (decide (48 ≤ x1_3))) :: (56, .bool (decide (48 ≤ x1_3))) :: (55, .int .u8 x1_3) :: (46, .bool false) :: E7)
       refine oR 5 (p' := g41p13) (eE := E41) (H' := (mkH [])) (by kernel_rfl) ?_
       refine oK [0, 1, 6, 54] (eE := [(0, .str a0), (1, .int .i64 a1), (6, .int .u8 x1_3), (54, .bool (decide (x1_3 ≤ 55)))]) (by kernel_rfl) ?_
       exact hj8 (decide (x1_3 ≤ 55))
      ·let E42 : Env := ((54, .bool false) :: (60, .bool false) :: (59, .tuple []) :: (58, .tuple []) :: (57, .bool false) :: (57, .bool (decide (48 ≤ x1_3))) :: (56, .bool (decide (48 ≤ x1_3))) :: (55, .int .u8 x1_3) :: (46, .bool false) :: E7)
       refine oR 5 (p' := g41p13) (eE := E42) (H' := (mkH [])) (by kernel_rfl) ?_
       refine oK [0, 1, 6, 54] (eE := [(0, .str a0), (1, .int .i64 a1), (6, .int .u8 x1_3), (54, .bool false)]) (by kernel_rfl) ?_
       exact hj8 false
 ·refine oS 15 (b := decide (a1 < 0)) (by kernel_rfl) (fun hb => ?_) (fun hb => ?_)
  ·let E43 : Env := ((33, .bool true) :: (32, .tuple []) :: (31, .tuple []) :: (30, .tuple []) :: (29, .tuple []) :: (28, .tuple []) :: (27, .bool true) :: (26, .bool true) :: (25, .tuple []) :: (24, .tuple []) :: (23, .tuple []) :: (22, .tuple []) :: (21, .bool true) :: (20, .bool true) :: (19, .tuple []) :: (18, .tuple []) :: (17, .tuple []) :: (16, .tuple []) :: (15, .bool true) :: E1)
   refine oR 19 (p' := g41p2) (eE := E43) (H' := (mkH [])) (by kernel_rfl) ?_
   refine oK [0, 1, 33] (eE := [(0, .str a0), (1, .int .i64 a1), (33, .bool true)]) (by kernel_rfl) ?_
   exact hj7 true
  ·let E44 : Env := ((21, .bool (decide ((a0.length : Int) ≤ a1))) :: (20, .bool (decide ((a0.length : Int) ≤ a1))) :: (19, .bool (decide ((a0.length : Int) ≤ a1))) :: (18, .int .i64 (a0.length : Int)) :: (17, .str a0) :: (16, .int .i64 a1) :: (15, .bool false) :: E1)
   refine oR 6 (p' := (atN 9 (ctl1 g41p1))) (eE := E44) (H' := (mkH [])) (by kernel_rfl) ?_
   refine oS 21 (b := decide ((a0.length : Int) ≤ a1)) (by kernel_rfl) (fun hb => ?_) (fun hb => ?_)
   ·let E45 : Env := ((33, .bool true) :: (32, .tuple []) :: (31, .tuple []) :: (30, .tuple []) :: (29, .tuple []) :: (28, .tuple []) :: (27, .bool true) :: (26, .bool true) :: (25, .tuple []) :: (24, .tuple []) :: (23, .tuple []) :: (22, .tuple []) :: (21, .bool true) :: E44)
    refine oR 13 (p' := g41p2) (eE := E45) (H' := (mkH [])) (by kernel_rfl) ?_
    refine oK [0, 1, 33] (eE := [(0, .str a0), (1, .int .i64 a1), (33, .bool true)]) (by kernel_rfl) ?_
    exact hj7 true
   ·refine oR 2 (p' := (atN 11 (ctl1 g41p1))) (eE := ((23, .int .i64 a1) :: (22, .str a0) :: (21, .bool false) :: E44)) (H' := (mkH [])) (by kernel_rfl) ?_
    refine oH (fun (x0_11 : Int) => (.int .u8 x0_11, (mkH []))) (atN 12 (ctl1 g41p1)) (fun x0_11 => ((24, .int .u8 x0_11) :: (23, .int .i64 a1) :: (22, .str a0) :: (21, .bool false) :: E44)) (idxH (by kernel_rfl)) (fun _ => by kernel_rfl) (fun x0_11 hx0_11 => ?_)
    let E46 : Env := ((27, .bool (!decide (x0_11 = 92))) :: (26, .bool (!decide (x0_11 = 92))) :: (25, .bool (!decide (x0_11 = 92))) :: (24, .int .u8 x0_11) :: (23, .int .i64 a1) :: (22, .str a0) :: (21, .bool false) :: E44)
    refine oR 3 (p' := (atN 15 (ctl1 g41p1))) (eE := E46) (H' := (mkH [])) (by kernel_rfl) ?_
    refine oS 27 (b := !decide (x0_11 = 92)) (by kernel_rfl) (fun hb => ?_) (fun hb => ?_)
    ·let E47 : Env := ((33, .bool true) :: (32, .tuple []) :: (31, .tuple []) :: (30, .tuple []) :: (29, .tuple []) :: (28, .tuple []) :: (27, .bool true) :: E46)
     refine oR 7 (p' := g41p2) (eE := E47) (H' := (mkH [])) (by kernel_rfl) ?_
     refine oK [0, 1, 33] (eE := [(0, .str a0), (1, .int .i64 a1), (33, .bool true)]) (by kernel_rfl) ?_
     exact hj7 true
    ·let E48 : Env := ((33, .bool (decide ((a0.length : Int) ≤ fW .i64 (a1 + 1)))) :: (32, .bool (decide ((a0.length : Int) ≤ fW .i64 (a1 + 1)))) :: (31, .int .i64 (a0.length : Int)) :: (30, .str a0) :: (29, .int .i64 (fW .i64 (a1 + 1))) :: (28, .int .i64 a1) :: (27, .bool false) :: E46)
     refine oR 7 (p' := g41p2) (eE := E48) (H' := (mkH [])) (by kernel_rfl) ?_
     refine oK [0, 1, 33] (eE := [(0, .str a0), (1, .int .i64 a1), (33, .bool (decide ((a0.length : Int) ≤ fW .i64 (a1 + 1))))]) (by kernel_rfl) ?_
     exact hj7 (decide ((a0.length : Int) ≤ fW .i64 (a1 + 1)))
end
end Go.Proofs.Ytabhkocokojddaa.Am
set_option maxRecDepth 100000
set_option linter.unusedVariables false
namespace Go.Proofs.Ytabhkocokojddaa.Am
noncomputable section
open Go
def X39 : Fx (Int × Int) := ⟨Try.prog, cx, Try.f39, fun r => .tuple [.int .i64 r.1, .int .i64 r.2], 0, fun _ => H0, cxTi, cxOrd⟩
def g39p0 : Pt := nav [0] (bodyAt Try.f39)
def g39p1 : Pt := nav [0, 0, 0, 0] g39p0
def g39p2 : Pt := nav [0, 0] g39p1
def g39p4 : Pt := nav [2, 0, 0] g39p2
def g39p6 : Pt := nav [0, 0, 0, 0] g39p4
def g39p7 : Pt := nav [0, 0] g39p6
def g39p8 : Pt := nav [1, 0] g39p7
def g39p9 : Pt := nav [2, 0, 0, 0] g39p7
def g39p10 : Pt := nav [0, 0, 0] g39p8
def g39p11 : Pt := nav [0, 0] g39p9
def g39p12 : Pt := nav [0, 0] g39p10
def g39 (k : Nat) (a0 : (List Nat)) : Option (Int × Int) :=
 jn (fun (z4 : Bool) => if z4 then (some ((0 : Int), (8 : Int))) else ((g41 k a0 (1 : Int)).bind fun x1_1 => (nthS a0 1).bind fun x2_1 => jn (fun (z6 : Int × Int) => if (!decide (z6.2 = fW .i64 ((a0.length : Int) - 1))) then (some ((0 : Int), (8 : Int))) else (some (z6.1, (0 : Int)))) (fun j6 => if (!decide (x2_1 = 92)) then ((g78 k a0 (1 : Int)).bind fun x3_1 => jn (fun (z5 : Bool) => if z5 then (j6 (x3_1.1, 0)) else (j6 (x3_1.1, x3_1.2))) (fun j5 => if (decide (x3_1.1 ≤ 32)) then (j5 true) else (j5 (decide (x3_1.1 = 127))))) else (j6 (x1_1.1, x1_1.2))))) (fun j4 => if (decide ((a0.length : Int) < 2)) then (j4 true) else ((nthS a0 0).bind fun x0_5 => j4 (!decide (x0_5 = 36))))
theorem g39_ok (k : Nat) (a0 : (List Nat)) (r : (Int × Int)) (h : g39 k a0 = some r) : PureOk Try.prog 39 [.str a0] (.tuple [.int .i64 r.1, .int .i64 r.2]) := by
 refine pure_of X39 (fun _ => rfl) Try.func39 (by decide +kernel) (by kernel_rfl) (t := g39 k a0) ?_ h
 unfold g39
 refine oE (eE := [(0, .str a0)]) (by kernel_rfl) ?_
 let E1 : Env := [(9, .bool (decide ((a0.length : Int) < 2))), (8, .bool (decide ((a0.length : Int) < 2))), (7, .int .i64 (a0.length : Int)), (6, .str a0), (3, .int .i64 0), (2, .int .i64 0), (0, .str a0)]
 refine oR 12 (p' := (atN 4 (ctl1 g39p1))) (eE := E1) (H' := (mkH [])) (by kernel_rfl) ?_
 refine oJ (f := fun (z4 : Bool) => if z4 then (some ((0 : Int), (8 : Int))) else ((g41 k a0 (1 : Int)).bind fun x1_1 => (nthS a0 1).bind fun x2_1 => jn (fun (z6 : Int × Int) => if (!decide (z6.2 = fW .i64 ((a0.length : Int) - 1))) then (some ((0 : Int), (8 : Int))) else (some (z6.1, (0 : Int)))) (fun j6 => if (!decide (x2_1 = 92)) then ((g78 k a0 (1 : Int)).bind fun x3_1 => jn (fun (z5 : Bool) => if z5 then (j6 (x3_1.1, 0)) else (j6 (x3_1.1, x3_1.2))) (fun j5 => if (decide (x3_1.1 ≤ 32)) then (j5 true) else (j5 (decide (x3_1.1 = 127))))) else (j6 (x1_1.1, x1_1.2))))) g39p2 (fun (z4 : Bool) => [(0, .str a0), (13, .bool z4)]) (fun (z4 : Bool) => (mkH [])) (fun z4 => ?_) (fun j4 hj4 => ?_)
 ·refine oS 13 (b := z4) (by kernel_rfl) (fun hb => ?_) (fun hb => ?_)
  ·let E2 : Env := [(3, .int .i64 8), (2, .int .i64 0), (13, .bool true), (0, .str a0), (13, .bool z4)]
   refine oR 7 (p' := .fin) (eE := E2) (H' := (mkH [])) (by kernel_rfl) ?_
   exact oT (r := ((0 : Int), (8 : Int))) (xs := [.int .i64 0, .int .i64 8]) (v := .tuple [.int .i64 0, .int .i64 8]) (by kernel_rfl) (by kernel_rfl) (by kernel_rfl) (.pures (by kernel_rfl)) (by kernel_rfl)
  ·refine oR 5 (p' := (atN 1 (ctl1 g39p4))) (eE := [(15, .str a0), (13, .bool false), (0, .str a0), (13, .bool z4)]) (H' := (mkH [])) (by kernel_rfl) ?_
   refine oC (fun (x1_1 : (Int × Int)) => .tuple [.int .i64 x1_1.1, .int .i64 x1_1.2]) (atN 2 (ctl1 g39p4)) (fun x1_1 => [(16, .tuple [.int .i64 x1_1.1, .int .i64 x1_1.2]), (15, .str a0), (13, .bool false), (0, .str a0), (13, .bool z4)]) (fi := 41) (args := [.str a0, .int .i64 1]) (by kernel_rfl) (by kernel_rfl) (fun _ => by kernel_rfl) (fun r h => g41_ok k a0 (1 : Int) r h) (fun _ => by kernel_rfl) (fun x1_1 hx1_1 => ?_)
   let E3 : Env := [(5, .int .i64 x1_1.2), (4, .int .i64 x1_1.1), (18, .int .i64 x1_1.2), (17, .int .i64 x1_1.1), (14, .tuple [.int .i64 x1_1.1, .int .i64 x1_1.2]), (16, .tuple [.int .i64 x1_1.1, .int .i64 x1_1.2]), (15, .str a0), (13, .bool false), (0, .str a0), (13, .bool z4)]
   refine oR 8 (p' := g39p6) (eE := E3) (H' := (mkH [])) (by kernel_rfl) ?_
   refine oK [0, 4, 5] (eE := [(0, .str a0), (4, .int .i64 x1_1.1), (5, .int .i64 x1_1.2)]) (by kernel_rfl) ?_
   refine oR 2 (p' := (atN 1 (ctl1 g39p6))) (eE := [(19, .str a0), (0, .str a0), (4, .int .i64 x1_1.1), (5, .int .i64 x1_1.2)]) (H' := (mkH [])) (by kernel_rfl) ?_
   refine oH (fun (x2_1 : Int) => (.int .u8 x2_1, (mkH []))) (atN 2 (ctl1 g39p6)) (fun x2_1 => [(20, .int .u8 x2_1), (19, .str a0), (0, .str a0), (4, .int .i64 x1_1.1), (5, .int .i64 x1_1.2)]) (idxH (by kernel_rfl)) (fun _ => by kernel_rfl) (fun x2_1 hx2_1 => ?_)
   let E4 : Env := [(21, .bool (!decide (x2_1 = 92))), (20, .int .u8 x2_1), (19, .str a0), (0, .str a0), (4, .int .i64 x1_1.1), (5, .int .i64 x1_1.2)]
   refine oR 2 (p' := g39p7) (eE := E4) (H' := (mkH [])) (by kernel_rfl) ?_
   refine oJ (f := fun (z6 : Int × Int) => if (!decide (z6.2 = fW .i64 ((a0.length : Int) - 1))) then (some ((0 : Int), (8 : Int))) else (some (z6.1, (0 : Int)))) g39p9 (fun (z6 : Int × Int) => [(0, .str a0), (4, .int .i64 z6.1), (5, .int .i64 z6.2)]) (fun (z6 : Int × Int) => (mkH [])) (fun z6 => ?_) (fun j6 hj6 => ?_)
   ·let E5 : Env := [(37, .bool (!decide (z6.2 = fW .i64 ((a0.length : Int) - 1)))), (36, .int .i64 (fW .i64 ((a0.length : Int) - 1))), (35, .int .i64 (a0.length : Int)), (34, .str a0), (33, .int .i64 z6.2), (0, .str a0), (4, .int .i64 z6.1), (5, .int .i64 z6.2)]
    refine oR 7 (p' := g39p11) (eE := E5) (H' := (mkH [])) (by kernel_rfl) ?_
    refine oS 37 (b := !decide (z6.2 = fW .i64 ((a0.length : Int) - 1))) (by kernel_rfl) (fun hb => ?_) (fun hb => ?_)
    ·refine oR 7 (p' := .fin) (eE := ((3, .int .i64 8) :: (2, .int .i64 0) :: (37, .bool true) :: E5)) (H' := (mkH [])) (by kernel_rfl) ?_
     exact oT (r := ((0 : Int), (8 : Int))) (xs := [.int .i64 0, .int .i64 8]) (v := .tuple [.int .i64 0, .int .i64 8]) (by kernel_rfl) (by kernel_rfl) (by kernel_rfl) (.pures (by kernel_rfl)) (by kernel_rfl)
    ·refine oR 9 (p' := .fin) (eE := ((3, .int .i64 0) :: (2, .int .i64 z6.1) :: (38, .int .i64 z6.1) :: (37, .bool false) :: E5)) (H' := (mkH [])) (by kernel_rfl) ?_
     exact oT (r := (z6.1, (0 : Int))) (xs := [.int .i64 z6.1, .int .i64 0]) (v := .tuple [.int .i64 z6.1, .int .i64 0]) (by kernel_rfl) (by kernel_rfl) (by kernel_rfl) (.pures (by kernel_rfl)) (by kernel_rfl)
   ·refine oS 21 (b := !decide (x2_1 = 92)) (by kernel_rfl) (fun hb => ?_) (fun hb => ?_)
    ·refine oR 4 (p' := (atN 1 (ctl1 g39p8))) (eE := ((23, .str a0) :: (21, .bool true) :: E4)) (H' := (mkH [])) (by kernel_rfl) ?_
     refine oC (fun (x3_1 : (Int × Int)) => .tuple [.int .i64 x3_1.1, .int .i64 x3_1.2]) (atN 2 (ctl1 g39p8)) (fun x3_1 => ((24, .tuple [.int .i64 x3_1.1, .int .i64 x3_1.2]) :: (23, .str a0) :: (21, .bool true) :: E4)) (fi := 78) (args := [.str a0, .int .i64 1]) (by kernel_rfl) (by kernel_rfl) (fun _ => by kernel_rfl) (fun r h => g78_ok k a0 (1 : Int) r h) (fun _ => by kernel_rfl) (fun x3_1 hx3_1 => ?_)
     let E6 : Env := ((5, .int .i64 x3_1.2) :: (4, .int .i64 x3_1.1) :: (26, .int .i64 x3_1.2) :: (25, .int .i64 x3_1.1) :: (22, .tuple [.int .i64 x3_1.1, .int .i64 x3_1.2]) :: (24, .tuple [.int .i64 x3_1.1, .int .i64 x3_1.2]) :: (23, .str a0) :: (21, .bool true) :: E4)
     refine oR 7 (p' := g39p10) (eE := E6) (H' := (mkH [])) (by kernel_rfl) ?_
     refine oK [0, 4, 5] (eE := [(0, .str a0), (4, .int .i64 x3_1.1), (5, .int .i64 x3_1.2)]) (by kernel_rfl) ?_
     let E7 : Env := [(29, .bool (decide (x3_1.1 ≤ 32))), (28, .bool (decide (x3_1.1 ≤ 32))), (27, .int .i64 x3_1.1), (0, .str a0), (4, .int .i64 x3_1.1), (5, .int .i64 x3_1.2)]
     refine oR 4 (p' := (atN 3 (ctl1 g39p10))) (eE := E7) (H' := (mkH [])) (by kernel_rfl) ?_
     refine oJ (f := fun (z5 : Bool) => if z5 then (j6 (x3_1.1, 0)) else (j6 (x3_1.1, x3_1.2))) g39p12 (fun (z5 : Bool) => [(0, .str a0), (4, .int .i64 x3_1.1), (5, .int .i64 x3_1.2), (32, .bool z5)]) (fun (z5 : Bool) => (mkH [])) (fun z5 => ?_) (fun j5 hj5 => ?_)
     ·refine oS 32 (b := z5) (by kernel_rfl) (fun hb => ?_) (fun hb => ?_)
      ·let E8 : Env := [(5, .int .i64 0), (32, .bool true), (0, .str a0), (4, .int .i64 x3_1.1), (5, .int .i64 x3_1.2), (32, .bool z5)]
       refine oR 6 (p' := g39p9) (eE := E8) (H' := (mkH [])) (by kernel_rfl) ?_
       refine oK [0, 4, 5] (eE := [(0, .str a0), (4, .int .i64 x3_1.1), (5, .int .i64 0)]) (by kernel_rfl) ?_
       exact hj6 (x3_1.1, 0)
      ·let E9 : Env := [(32, .bool false), (0, .str a0), (4, .int .i64 x3_1.1), (5, .int .i64 x3_1.2), (32, .bool z5)]
       refine oR 4 (p' := g39p9) (eE := E9) (H' := (mkH [])) (by kernel_rfl) ?_
       refine oK [0, 4, 5] (eE := [(0, .str a0), (4, .int .i64 x3_1.1), (5, .int .i64 x3_1.2)]) (by kernel_rfl) ?_
       exact hj6 (x3_1.1, x3_1.2)
     ·refine oS 29 (b := decide (x3_1.1 ≤ 32)) (by kernel_rfl) (fun hb => ?_) (fun hb => ?_)
      ·refine oR 4 (p' := g39p12) (eE := ((32, .bool true) :: (31, .tuple []) :: (30, .tuple []) :: (29, .bool true) :: E7)) (H' := (mkH [])) (by kernel_rfl) ?_
       refine oK [0, 4, 5, 32] (eE := [(0, .str a0), (4, .int .i64 x3_1.1), (5, .int .i64 x3_1.2), (32, .bool true)]) (by kernel_rfl) ?_
       exact hj5 true
      ·refine oR 4 (p' := g39p12) (eE := ((32, .bool (decide (x3_1.1 = 127))) :: (31, .bool (decide (x3_1.1 = 127))) :: (30, .int .i64 x3_1.1) :: (29, .bool false) :: E7)) (H' := (mkH [])) (by kernel_rfl) ?_
       refine oK [0, 4, 5, 32] (eE := [(0, .str a0), (4, .int .i64 x3_1.1), (5, .int .i64 x3_1.2), (32, .bool (decide (x3_1.1 = 127)))]) (by kernel_rfl) ?_
       exact hj5 (decide (x3_1.1 = 127))
    ·refine oR 4 (p' := g39p9) (eE := ((21, .bool false) :: E4)) (H' := (mkH [])) (by kernel_rfl) ?_
     refine oK [0, 4, 5] (eE := [(0, .str a0), (4, .int .i64 x1_1.1), (5, .int .i64 x1_1.2)]) (by kernel_rfl) ?_
     exact hj6 (x1_1.1, x1_1.2)
 ·refine oS 9 (b := decide ((a0.length : Int) < 2)) (by kernel_rfl) (fun hb => ?_) (fun hb => ?_)
  ·let E10 : Env := ((13, .bool true) :: (12, .tuple []) :: (11, .tuple []) :: (10, .tuple []) :: (9, .bool true) :: E1)
   refine oR 5 (p' := g39p2) (eE := E10) (H' := (mkH [])) (by kernel_rfl) ?_
   refine oK [0, 13] (eE := [(0, .str a0), (13, .bool true)]) (by kernel_rfl) ?_
   exact hj4 true
  ·refine oR 1 (p' := (atN 5 (ctl1 g39p1))) (eE := ((10, .str a0) :: (9, .bool false) :: E1)) (H' := (mkH [])) (by kernel_rfl) ?_
   refine oH (fun (x0_5 : Int) => (.int .u8 x0_5, (mkH []))) (atN 6 (ctl1 g39p1)) (fun x0_5 => ((11, .int .u8 x0_5) :: (10, .str a0) :: (9, .bool false) :: E1)) (idxH (by kernel_rfl)) (fun _ => by kernel_rfl) (fun x0_5 hx0_5 => ?_)
   let E11 : Env := ((13, .bool (!decide (x0_5 = 36))) :: (12, .bool (!decide (x0_5 = 36))) :: (11, .int .u8 x0_5) :: (10, .str a0) :: (9, .bool false) :: E1)
   refine oR 3 (p' := g39p2) (eE := E11) (H' := (mkH [])) (by kernel_rfl) ?_
   refine oK [0, 13] (eE := [(0, .str a0), (13, .bool (!decide (x0_5 = 36)))]) (by kernel_rfl) ?_
   exact hj4 (!decide (x0_5 = 36))
end
end Go.Proofs.Ytabhkocokojddaa.Am
set_option maxRecDepth 100000
set_option linter.unusedVariables false
namespace Go.Proofs.Ytabhkocokojddaa.Am
noncomputable section
open Go
def X43 : Fx ((List Int) × Int) := ⟨Try.prog, cx, Try.f43, fun r => .tuple [.vec (r.1).length 1 ((r.1).flatMap e3), .int .i64 r.2], 0, fun _ => H0, cxTi, cxOrd⟩
def g43p0 : Pt := nav [0] (bodyAt Try.f43)
def g43p1 : Pt := nav [0, 0, 0, 0] g43p0
def g43p2 : Pt := nav [0] g43p1
def g43p4 : Pt := nav [2, 0, 0] g43p2
def g43p6 : Pt := nav [0, 0, 0] g43p4
def g43p7 : Pt := nav [0, 0, 0, 0, 0] g43p6
def g43p8 : Pt := nav [0, 0, 0] g43p7
def g43p9 : Pt := nav [0, 0] g43p8
def g43p10 : Pt := nav [1, 0, 0, 0] g43p9
def g43p11 : Pt := nav [2, 0, 0, 0] g43p9
def g43p12 : Pt := nav [0, 0, 0, 0, 0] g43p10
def g43p13 : Pt := nav [0, 0] g43p11
def g43p14 : Pt := nav [0, 0] g43p12
def g43p17 : Pt := nav [1, 0] g43p14
def g43p18 : Pt := nav [2, 0] g43p14
def g43p19 : Pt := nav [0, 0, 0] g43p17
def g43p20 : Pt := nav [0] g43p18
def g43p21 : Pt := nav [0, 0] g43p19
def g43p23 : Pt := nav [2, 0] g43p20
def g43_l7 (k : Nat)  (a0 : (List Nat)) (n : Nat) : Int → (List Int) → Option ((List Int) × Int) :=
 Nat.rec (motive := fun _ => Int → (List Int) → Option ((List Int) × Int)) (fun _ _ => none) (fun _ ih => fun (y7_0 : Int) (y7_1 : (List Int)) => if (decide (y7_0 < fW .i64 ((a0.length : Int) - 1))) then ((g78 k a0 y7_0).bind fun x1_2 => (nthS a0 y7_0).bind fun x2_2 => jn (fun (z8 : Int × Int × Int × (List Int)) => (appS 8 z8.2.2.2 ([z8.2.1] : List Int)).bind fun x5_3 => ih (fW .i64 (z8.2.2.1 + z8.1)) x5_3) (fun j8 => if (decide (x2_2 = 92)) then ((subL a0 none (some (fW .i64 ((a0.length : Int) - 1)))).bind fun x3_2 => (g41 k x3_2 y7_0).bind fun x3_4 => if (decide (x3_4.2 = 0)) then (some (([] : List Int), (8 : Int))) else (j8 (x3_4.2, x3_4.1, y7_0, y7_1))) else (jn (fun (z9 : Bool × Int × (List Int)) => if z9.1 then (some (([] : List Int), (8 : Int))) else (j8 (x1_2.2, x1_2.1, z9.2.1, z9.2.2))) (fun j9 => (nthS a0 y7_0).bind fun x4_2 => (nthS a0 0).bind fun x4_4 => if (decide (x4_2 = x4_4)) then (j9 (true, y7_0, y7_1)) else (j9 (decide (x1_2.1 < 32), y7_0, y7_1)))))) else (if (!decide (y7_0 = fW .i64 ((a0.length : Int) - 1))) then (some (([] : List Int), (8 : Int))) else (some (y7_1, (0 : Int))))) n
theorem g43_l7_s (k : Nat)  (a0 : (List Nat)) (n : Nat) (y7_0 : Int) (y7_1 : (List Int)) : g43_l7 k a0 (n + 1) y7_0 y7_1 = (if (decide (y7_0 < fW .i64 ((a0.length : Int) - 1))) then ((g78 k a0 y7_0).bind fun x1_2 => (nthS a0 y7_0).bind fun x2_2 => jn (fun (z8 : Int × Int × Int × (List Int)) => (appS 8 z8.2.2.2 ([z8.2.1] : List Int)).bind fun x5_3 => (g43_l7 k a0 n) (fW .i64 (z8.2.2.1 + z8.1)) x5_3) (fun j8 => if (decide (x2_2 = 92)) then ((subL a0 none (some (fW .i64 ((a0.length : Int) - 1)))).bind fun x3_2 => (g41 k x3_2 y7_0).bind fun x3_4 => if (decide (x3_4.2 = 0)) then (some (([] : List Int), (8 : Int))) else (j8 (x3_4.2, x3_4.1, y7_0, y7_1))) else (jn (fun (z9 : Bool × Int × (List Int)) => if z9.1 then (some (([] : List Int), (8 : Int))) else (j8 (x1_2.2, x1_2.1, z9.2.1, z9.2.2))) (fun j9 => (nthS a0 y7_0).bind fun x4_2 => (nthS a0 0).bind fun x4_4 => if (decide (x4_2 = x4_4)) then (j9 (true, y7_0, y7_1)) else (j9 (decide (x1_2.1 < 32), y7_0, y7_1)))))) else (if (!decide (y7_0 = fW .i64 ((a0.length : Int) - 1))) then (some (([] : List Int), (8 : Int))) else (some (y7_1, (0 : Int))))) := rfl
theorem g43_l7_ok (k : Nat)  (a0 : (List Nat))  : ∀ (n : Nat) (y7_0 : Int) (y7_1 : (List Int)), Ok X43 g43p7 [(0, .str a0), (4, .own 0 (y7_1).length 1), (5, .int .i64 y7_0), (6, .int .i64 (fW .i64 ((a0.length : Int) - 1)))] (mkH [⟨(y7_1).flatMap e3, 0, false⟩]) (g43_l7 k a0 n y7_0 y7_1)
 | 0, _, _ => ok_none
 | n + 1, y7_0, y7_1 => by
  have ih := g43_l7_ok k a0 n
  rw [g43_l7_s]
  refine ok_ent (p' := nav [0] g43p7) (by kernel_rfl) ?_
  let E3 : Env := [(37, .bool (decide (y7_0 < fW .i64 ((a0.length : Int) - 1)))), (36, .int .i64 (fW .i64 ((a0.length : Int) - 1))), (35, .int .i64 y7_0), (0, .str a0), (4, .own 0 (y7_1).length 1), (5, .int .i64 y7_0), (6, .int .i64 (fW .i64 ((a0.length : Int) - 1)))]
  refine oR 7 (p' := g43p9) (eE := E3) (H' := (mkH [⟨(y7_1).flatMap e3, 0, false⟩])) (by kernel_rfl) ?_
  refine oS 37 (b := decide (y7_0 < fW .i64 ((a0.length : Int) - 1))) (by kernel_rfl) (fun hb => ?_) (fun hb => ?_)
  ·refine oR 7 (p' := (atN 2 (ctl1 g43p10))) (eE := ((40, .int .i64 y7_0) :: (39, .str a0) :: (37, .bool true) :: E3)) (H' := (mkH [⟨(y7_1).flatMap e3, 0, false⟩])) (by kernel_rfl) ?_
   refine oC (fun (x1_2 : (Int × Int)) => .tuple [.int .i64 x1_2.1, .int .i64 x1_2.2]) (atN 3 (ctl1 g43p10)) (fun x1_2 => ((41, .tuple [.int .i64 x1_2.1, .int .i64 x1_2.2]) :: (40, .int .i64 y7_0) :: (39, .str a0) :: (37, .bool true) :: E3)) (fi := 78) (args := [.str a0, .int .i64 y7_0]) (by kernel_rfl) (by kernel_rfl) (fun _ => by kernel_rfl) (fun r h => g78_ok k a0 y7_0 r h) (fun _ => by kernel_rfl) (fun x1_2 hx1_2 => ?_)
   let E4 : Env := ((8, .int .i64 x1_2.2) :: (7, .int .i64 x1_2.1) :: (43, .int .i64 x1_2.2) :: (42, .int .i64 x1_2.1) :: (38, .tuple [.int .i64 x1_2.1, .int .i64 x1_2.2]) :: (41, .tuple [.int .i64 x1_2.1, .int .i64 x1_2.2]) :: (40, .int .i64 y7_0) :: (39, .str a0) :: (37, .bool true) :: E3)
   refine oR 9 (p' := g43p12) (eE := E4) (H' := (mkH [⟨(y7_1).flatMap e3, 0, false⟩])) (by kernel_rfl) ?_
   refine oK [0, 4, 5, 6, 7, 8] (eE := [(0, .str a0), (4, .own 0 (y7_1).length 1), (5, .int .i64 y7_0), (6, .int .i64 (fW .i64 ((a0.length : Int) - 1))), (7, .int .i64 x1_2.1), (8, .int .i64 x1_2.2)]) (by kernel_rfl) ?_
   let E5 : Env := [(46, .int .i64 y7_0), (45, .str a0), (0, .str a0), (4, .own 0 (y7_1).length 1), (5, .int .i64 y7_0), (6, .int .i64 (fW .i64 ((a0.length : Int) - 1))), (7, .int .i64 x1_2.1), (8, .int .i64 x1_2.2)]
   refine oR 3 (p' := (atN 2 (ctl1 g43p12))) (eE := E5) (H' := (mkH [⟨(y7_1).flatMap e3, 0, false⟩])) (by kernel_rfl) ?_
   refine oH (fun (x2_2 : Int) => (.int .u8 x2_2, (mkH [⟨(y7_1).flatMap e3, 0, false⟩]))) (atN 3 (ctl1 g43p12)) (fun x2_2 => ((47, .int .u8 x2_2) :: E5)) (idxH (by kernel_rfl)) (fun _ => by kernel_rfl) (fun x2_2 hx2_2 => ?_)
   refine oR 3 (p' := g43p14) (eE := ((44, .bool (decide (x2_2 = 92))) :: (48, .bool (decide (x2_2 = 92))) :: (47, .int .u8 x2_2) :: E5)) (H' := (mkH [⟨(y7_1).flatMap e3, 0, false⟩])) (by kernel_rfl) ?_
   refine oJ (f := fun (z8 : Int × Int × Int × (List Int)) => (appS 8 z8.2.2.2 ([z8.2.1] : List Int)).bind fun x5_3 => (g43_l7 k a0 n) (fW .i64 (z8.2.2.1 + z8.1)) x5_3) g43p23 (fun (z8 : Int × Int × Int × (List Int)) => [(0, .str a0), (4, .own 0 (z8.2.2.2).length 1), (5, .int .i64 z8.2.2.1), (6, .int .i64 (fW .i64 ((a0.length : Int) - 1))), (7, .int .i64 z8.2.1), (8, .int .i64 z8.1)]) (fun (z8 : Int × Int × Int × (List Int)) => (mkH [⟨(z8.2.2.2).flatMap e3, 0, false⟩])) (fun z8 => ?_) (fun j8 hj8 => ?_)
   ·let E6 : Env := [(72, .slice 1 1 0 1 1), (71, .int .i64 z8.2.1), (70, .own 0 (z8.2.2.2).length 1), (0, .str a0), (4, .own 0 (z8.2.2.2).length 1), (5, .int .i64 z8.2.2.1), (6, .int .i64 (fW .i64 ((a0.length : Int) - 1))), (7, .int .i64 z8.2.1), (8, .int .i64 z8.1)]
    refine oR 4 (p' := (atN 3 (ctl1 g43p23))) (eE := E6) (H' := (mkH [⟨(z8.2.2.2).flatMap e3, 0, false⟩, ⟨[.int .i64 z8.2.1], 0, false⟩])) (by kernel_rfl) ?_
    refine oH (fun (x5_3 : (List Int)) => (.own 0 (x5_3).length 1, (mkH [⟨(x5_3).flatMap e3, 0, false⟩, ⟨[.int .i64 z8.2.1], 0, false⟩]))) (atN 4 (ctl1 g43p23)) (fun x5_3 => ((73, .own 0 (x5_3).length 1) :: E6)) (appH (sz := 1) e3_len rfl e3_one [⟨(z8.2.2.2).flatMap e3, 0, false⟩, ⟨[.int .i64 z8.2.1], 0, false⟩] 0 8 z8.2.2.2 ([z8.2.1] : List Int) rfl rfl (by kernel_rfl)) (fun _ => by kernel_rfl) (fun x5_3 hx5_3 => ?_)
    let E7 : Env := ((5, .int .i64 (fW .i64 (z8.2.2.1 + z8.1))) :: (4, .own 0 (x5_3).length 1) :: (76, .int .i64 (fW .i64 (z8.2.2.1 + z8.1))) :: (75, .int .i64 z8.1) :: (74, .int .i64 z8.2.2.1) :: (73, .own 0 (x5_3).length 1) :: E6)
    refine oR 6 (p' := g43p7) (eE := E7) (H' := (mkH [⟨(x5_3).flatMap e3, 0, false⟩, ⟨[.int .i64 z8.2.1], 0, false⟩])) (by kernel_rfl) ?_
    refine oK [0, 4, 5, 6] (eE := [(0, .str a0), (4, .own 0 (x5_3).length 1), (5, .int .i64 (fW .i64 (z8.2.2.1 + z8.1))), (6, .int .i64 (fW .i64 ((a0.length : Int) - 1)))]) (by kernel_rfl) ?_
    refine ok_cut [⟨(x5_3).flatMap e3, 0, false⟩] [⟨[.int .i64 z8.2.1], 0, false⟩] (by kernel_rfl) rfl (by kernel_rfl) ⟨(purs_belows _ (purs_flatMap e3_pur _)), trivial⟩ ?_
    exact ih (fW .i64 (z8.2.2.1 + z8.1)) x5_3
   ·refine oS 44 (b := decide (x2_2 = 92)) (by kernel_rfl) (fun hb => ?_) (fun hb => ?_)
    ·let E8 : Env := ((51, .int .i64 (fW .i64 ((a0.length : Int) - 1))) :: (50, .str a0) :: (44, .bool true) :: (44, .bool (decide (x2_2 = 92))) :: (48, .bool (decide (x2_2 = 92))) :: (47, .int .u8 x2_2) :: E5)
     refine oR 5 (p' := (atN 2 (ctl1 g43p17))) (eE := E8) (H' := (mkH [⟨(y7_1).flatMap e3, 0, false⟩])) (by kernel_rfl) ?_
     refine oH (fun (x3_2 : (List Nat)) => (.str x3_2, (mkH [⟨(y7_1).flatMap e3, 0, false⟩]))) (atN 3 (ctl1 g43p17)) (fun x3_2 => ((52, .str x3_2) :: E8)) (subH none (some (fW .i64 ((a0.length : Int) - 1))) (by kernel_rfl)) (fun _ => by kernel_rfl) (fun x3_2 hx3_2 => ?_)
     refine oR 1 (p' := (atN 4 (ctl1 g43p17))) (eE := ((53, .int .i64 y7_0) :: (52, .str x3_2) :: E8)) (H' := (mkH [⟨(y7_1).flatMap e3, 0, false⟩])) (by kernel_rfl) ?_
     refine oC (fun (x3_4 : (Int × Int)) => .tuple [.int .i64 x3_4.1, .int .i64 x3_4.2]) (atN 5 (ctl1 g43p17)) (fun x3_4 => ((54, .tuple [.int .i64 x3_4.1, .int .i64 x3_4.2]) :: (53, .int .i64 y7_0) :: (52, .str x3_2) :: E8)) (fi := 41) (args := [.str x3_2, .int .i64 y7_0]) (by kernel_rfl) (by kernel_rfl) (fun _ => by kernel_rfl) (fun r h => g41_ok k x3_2 y7_0 r h) (fun _ => by kernel_rfl) (fun x3_4 hx3_4 => ?_)
     let E9 : Env := ((8, .int .i64 x3_4.2) :: (7, .int .i64 x3_4.1) :: (56, .int .i64 x3_4.2) :: (55, .int .i64 x3_4.1) :: (49, .tuple [.int .i64 x3_4.1, .int .i64 x3_4.2]) :: (54, .tuple [.int .i64 x3_4.1, .int .i64 x3_4.2]) :: (53, .int .i64 y7_0) :: (52, .str x3_2) :: E8)
     refine oR 7 (p' := g43p19) (eE := E9) (H' := (mkH [⟨(y7_1).flatMap e3, 0, false⟩])) (by kernel_rfl) ?_
     refine oK [0, 4, 5, 6, 7, 8] (eE := [(0, .str a0), (4, .own 0 (y7_1).length 1), (5, .int .i64 y7_0), (6, .int .i64 (fW .i64 ((a0.length : Int) - 1))), (7, .int .i64 x3_4.1), (8, .int .i64 x3_4.2)]) (by kernel_rfl) ?_
     let E10 : Env := [(58, .bool (decide (x3_4.2 = 0))), (57, .int .i64 x3_4.2), (0, .str a0), (4, .own 0 (y7_1).length 1), (5, .int .i64 y7_0), (6, .int .i64 (fW .i64 ((a0.length : Int) - 1))), (7, .int .i64 x3_4.1), (8, .int .i64 x3_4.2)]
     refine oR 4 (p' := g43p21) (eE := E10) (H' := (mkH [⟨(y7_1).flatMap e3, 0, false⟩])) (by kernel_rfl) ?_
     refine oS 58 (b := decide (x3_4.2 = 0)) (by kernel_rfl) (fun hb => ?_) (fun hb => ?_)
     ·refine oR 7 (p' := .fin) (eE := ((3, .int .i64 8) :: (2, .nils) :: (58, .bool true) :: E10)) (H' := (mkH [⟨(y7_1).flatMap e3, 0, false⟩])) (by kernel_rfl) ?_
      exact oT (r := (([] : List Int), (8 : Int))) (xs := [.nils, .int .i64 8]) (v := .tuple [.vec 0 1 [], .int .i64 8]) (by kernel_rfl) (by kernel_rfl) (by kernel_rfl) (.tuple (.nil (.pures (by kernel_rfl))) (.pures (by kernel_rfl))) (by kernel_rfl)
     ·refine oR 2 (p' := g43p23) (eE := ((58, .bool false) :: E10)) (H' := (mkH [⟨(y7_1).flatMap e3, 0, false⟩])) (by kernel_rfl) ?_
      refine oK [0, 4, 5, 6, 7, 8] (eE := [(0, .str a0), (4, .own 0 (y7_1).length 1), (5, .int .i64 y7_0), (6, .int .i64 (fW .i64 ((a0.length : Int) - 1))), (7, .int .i64 x3_4.1), (8, .int .i64 x3_4.2)]) (by kernel_rfl) ?_
      exact hj8 (x3_4.2, x3_4.1, y7_0, y7_1)
    ·refine oR 2 (p' := g43p18) (eE := ((44, .bool false) :: (44, .bool (decide (x2_2 = 92))) :: (48, .bool (decide (x2_2 = 92))) :: (47, .int .u8 x2_2) :: E5)) (H' := (mkH [⟨(y7_1).flatMap e3, 0, false⟩])) (by kernel_rfl) ?_
     refine oJ (f := fun (z9 : Bool × Int × (List Int)) => if z9.1 then (some (([] : List Int), (8 : Int))) else (j8 (x1_2.2, x1_2.1, z9.2.1, z9.2.2))) g43p20 (fun (z9 : Bool × Int × (List Int)) => [(0, .str a0), (4, .own 0 (z9.2.2).length 1), (5, .int .i64 z9.2.1), (6, .int .i64 (fW .i64 ((a0.length : Int) - 1))), (7, .int .i64 x1_2.1), (8, .int .i64 x1_2.2), (59, .bool z9.1)]) (fun (z9 : Bool × Int × (List Int)) => (mkH [⟨(z9.2.2).flatMap e3, 0, false⟩])) (fun z9 => ?_) (fun j9 hj9 => ?_)
     ·refine oS 59 (b := z9.1) (by kernel_rfl) (fun hb => ?_) (fun hb => ?_)
      ·let E12 : Env := [(3, .int .i64 8), (2, .nils), (59, .bool true), (0, .str a0), (4, .own 0 (z9.2.2).length 1), (5, .int .i64 z9.2.1), (6, .int .i64 (fW .i64 ((a0.length : Int) - 1))), (7, .int .i64 x1_2.1), (8, .int .i64 x1_2.2), (59, .bool z9.1)]
       refine oR 7 (p' := .fin) (eE := E12) (H' := (mkH [⟨(z9.2.2).flatMap e3, 0, false⟩])) (by kernel_rfl) ?_
       exact oT (r := (([] : List Int), (8 : Int))) (xs := [.nils, .int .i64 8]) (v := .tuple [.vec 0 1 [], .int .i64 8]) (by kernel_rfl) (by kernel_rfl) (by kernel_rfl) (.tuple (.nil (.pures (by kernel_rfl))) (.pures (by kernel_rfl))) (by kernel_rfl)
      ·let E13 : Env := [(59, .bool false), (0, .str a0), (4, .own 0 (z9.2.2).length 1), (5, .int .i64 z9.2.1), (6, .int .i64 (fW .i64 ((a0.length : Int) - 1))), (7, .int .i64 x1_2.1), (8, .int .i64 x1_2.2), (59, .bool z9.1)]
       refine oR 2 (p' := g43p23) (eE := E13) (H' := (mkH [⟨(z9.2.2).flatMap e3, 0, false⟩])) (by kernel_rfl) ?_
       refine oK [0, 4, 5, 6, 7, 8] (eE := [(0, .str a0), (4, .own 0 (z9.2.2).length 1), (5, .int .i64 z9.2.1), (6, .int .i64 (fW .i64 ((a0.length : Int) - 1))), (7, .int .i64 x1_2.1), (8, .int .i64 x1_2.2)]) (by kernel_rfl) ?_
       exact hj8 (x1_2.2, x1_2.1, z9.2.1, z9.2.2)
     ·refine ok_bind (fun x4_2 hx4_2 => ?_)
      refine ok_bind (fun x4_4 hx4_4 => ?_)
      refine ok_if (fun hb8 => ?_) (fun hb8 => ?_)
      ·let E14 : Env := [(61, .int .i64 y7_0), (60, .str a0), (44, .bool false), (44, .bool (decide (x2_2 = 92))), (48, .bool (decide (x2_2 = 92))), (47, .int .u8 x2_2), (46, .int .i64 y7_0), (45, .str a0), (0, .str a0), (4, .own 0 (y7_1).length 1), (5, .int .i64 y7_0), (6, .int .i64 (fW .i64 ((a0.length : Int) - 1))), (7, .int .i64 x1_2.1), (8, .int .i64 x1_2.2)]
       let E15 : Env := ((66, .bool (decide (x4_2 = x4_4))) :: (65, .bool (decide (x4_2 = x4_4))) :: (64, .int .u8 x4_4) :: (63, .str a0) :: (62, .int .u8 x4_2) :: E14)
       let E16 : Env := [(59, .bool true), (69, .bool true), (68, .tuple []), (67, .tuple []), (66, .bool true), (65, .bool true), (64, .int .u8 x4_4), (63, .str a0), (62, .int .u8 x4_2), (61, .int .i64 y7_0), (60, .str a0), (44, .bool false), (44, .bool (decide (x2_2 = 92))), (48, .bool (decide (x2_2 = 92))), (47, .int .u8 x2_2), (46, .int .i64 y7_0), (45, .str a0), (0, .str a0), (4, .own 0 (y7_1).length 1), (5, .int .i64 y7_0), (6, .int .i64 (fW .i64 ((a0.length : Int) - 1))), (7, .int .i64 x1_2.1), (8, .int .i64 x1_2.2)]
       refine ok_draw (p' := nav [0] g43p18) (eE := E16) (H' := (mkH [⟨(y7_1).flatMap e3, 0, false⟩])) (hs := []) [(0, 0, 0), (0, 0, 0), (3, 0, 0), (0, 0, 0), (8, 0, 0), (31, 0, 0), (63, 0, 0), (127, 0, 0), (255, 0, 0), (511, 0, 0), (1023, 0, 0)] (by kernel_rfl) (by kernel_rfl) (by kernel_rfl) (opsD_run 2 (l' := (opsAt g43p18).toList.drop 2) (eE := E14) (H' := (mkH [⟨(y7_1).flatMap e3, 0, false⟩])) (hs := []) (by kernel_rfl) (opsD_chk (l' := (opsAt g43p18).toList.drop 3) (eE := ((62, .int .u8 x4_2) :: E14)) (hs := []) (x := x4_2) (fun (x4_2 : Int) => (.int .u8 x4_2, (mkH [⟨(y7_1).flatMap e3, 0, false⟩]))) (idxH (by kernel_rfl)) hx4_2 (by kernel_rfl) (opsD_run 1 (l' := (opsAt g43p18).toList.drop 4) (eE := ((63, .str a0) :: (62, .int .u8 x4_2) :: E14)) (H' := (mkH [⟨(y7_1).flatMap e3, 0, false⟩])) (hs := []) (by kernel_rfl) (opsD_chk (l' := (opsAt g43p18).toList.drop 5) (eE := ((64, .int .u8 x4_4) :: (63, .str a0) :: (62, .int .u8 x4_2) :: E14)) (hs := []) (x := x4_4) (fun (x4_4 : Int) => (.int .u8 x4_4, (mkH [⟨(y7_1).flatMap e3, 0, false⟩]))) (idxH (by kernel_rfl)) hx4_4 (by kernel_rfl) (opsD_run 2 (l' := (opsAt g43p18).toList.drop 7) (eE := E15) (H' := (mkH [⟨(y7_1).flatMap e3, 0, false⟩])) (hs := []) (by kernel_rfl) (opsD_env (eE := [(66, .bool true), (65, .bool true), (64, .int .u8 x4_4), (63, .str a0), (62, .int .u8 x4_2), (61, .int .i64 y7_0), (60, .str a0), (44, .bool false), (44, .bool (decide (x2_2 = 92))), (48, .bool (decide (x2_2 = 92))), (47, .int .u8 x2_2), (46, .int .i64 y7_0), (45, .str a0), (0, .str a0), (4, .own 0 (y7_1).length 1), (5, .int .i64 y7_0), (6, .int .i64 (fW .i64 ((a0.length : Int) - 1))), (7, .int .i64 x1_2.1), (8, .int .i64 x1_2.2)]) (congrArg (fun z : Bool => ([(66, .bool z), (65, .bool z), (64, .int .u8 x4_4), (63, .str a0), (62, .int .u8 x4_2), (61, .int .i64 y7_0), (60, .str a0), (44, .bool false), (44, .bool (decide (x2_2 = 92))), (48, .bool (decide (x2_2 = 92))), (47, .int .u8 x2_2), (46, .int .i64 y7_0), (45, .str a0), (0, .str a0), (4, .own 0 (y7_1).length 1), (5, .int .i64 y7_0), (6, .int .i64 (fW .i64 ((a0.length : Int) - 1))), (7, .int .i64 x1_2.1), (8, .int .i64 x1_2.2)] : Env)) hb8) (opsD_run 4 (l' := (opsAt g43p18).toList.drop 11) (eE := E16) (H' := (mkH [⟨(y7_1).flatMap e3, 0, false⟩])) (hs := []) (by kernel_rfl) (.nil)))))))) (by kernel_rfl) (by kernel_rfl) (by kernel_rfl) ?_
       refine oK [0, 4, 5, 6, 7, 8, 59] (eE := [(0, .str a0), (4, .own 0 (y7_1).length 1), (5, .int .i64 y7_0), (6, .int .i64 (fW .i64 ((a0.length : Int) - 1))), (7, .int .i64 x1_2.1), (8, .int .i64 x1_2.2), (59, .bool true)]) (by kernel_rfl) ?_
       exact hj9 (true, y7_0, y7_1)
      ·let E14 : Env := [(61, .int .i64 y7_0), (60, .str a0), (44, .bool false), (44, .bool (decide (x2_2 = 92))), (48, .bool (decide (x2_2 = 92))), (47, .int .u8 x2_2), (46, .int .i64 y7_0), (45, .str a0), (0, .str a0), (4, .own 0 (y7_1).length 1), (5, .int .i64 y7_0), (6, .int .i64 (fW .i64 ((a0.length : Int) - 1))), (7, .int .i64 x1_2.1), (8, .int .i64 x1_2.2)]
       let E15 : Env := ((66, .bool (decide (x4_2 = x4_4))) :: (65, .bool (decide (x4_2 = x4_4))) :: (64, .int .u8 x4_4) :: (63, .str a0) :: (62, .int .u8 x4_2) :: E14)
       let E17 : Env := [(59, .bool (decide (x1_2.1 < 32))), (69, .bool (decide (x1_2.1 < 32))), (68, .bool (decide (x1_2.1 < 32))), (67, .int .i64 x1_2.1), (66, .bool false), (65, .bool false), (64, .int .u8 x4_4), (63, .str a0), (62, .int .u8 x4_2), (61, .int .i64 y7_0), (60, .str a0), (44, .bool false), (44, .bool (decide (x2_2 = 92))), (48, .bool (decide (x2_2 = 92))), (47, .int .u8 x2_2), (46, .int .i64 y7_0), (45, .str a0), (0, .str a0), (4, .own 0 (y7_1).length 1), (5, .int .i64 y7_0), (6, .int .i64 (fW .i64 ((a0.length : Int) - 1))), (7, .int .i64 x1_2.1), (8, .int .i64 x1_2.2)]
       refine ok_draw (p' := nav [0] g43p18) (eE := E17) (H' := (mkH [⟨(y7_1).flatMap e3, 0, false⟩])) (hs := []) [(0, 0, 0), (0, 0, 0), (3, 0, 0), (0, 0, 0), (8, 0, 0), (31, 0, 0), (63, 0, 0), (127, 0, 0), (255, 0, 0), (511, 0, 0), (1023, 0, 0)] (by kernel_rfl) (by kernel_rfl) (by kernel_rfl) (opsD_run 2 (l' := (opsAt g43p18).toList.drop 2) (eE := E14) (H' := (mkH [⟨(y7_1).flatMap e3, 0, false⟩])) (hs := []) (by kernel_rfl) (opsD_chk (l' := (opsAt g43p18).toList.drop 3) (eE := ((62, .int .u8 x4_2) :: E14)) (hs := []) (x := x4_2) (fun (x4_2 : Int) => (.int .u8 x4_2, (mkH [⟨(y7_1).flatMap e3, 0, false⟩]))) (idxH (by kernel_rfl)) hx4_2 (by kernel_rfl) (opsD_run 1 (l' := (opsAt g43p18).toList.drop 4) (eE := ((63, .str a0) :: (62, .int .u8 x4_2) :: E14)) (H' := (mkH [⟨(y7_1).flatMap e3, 0, false⟩])) (hs := []) (by kernel_rfl) (opsD_chk (l' := (opsAt g43p18).toList.drop 5) (eE := ((64, .int .u8 x4_4) :: (63, .str a0) :: (62, .int .u8 x4_2) :: E14)) (hs := []) (x := x4_4) (fun (x4_4 : Int) => (.int .u8 x4_4, (mkH [⟨(y7_1).flatMap e3, 0, false⟩]))) (idxH (by kernel_rfl)) hx4_4 (by kernel_rfl) (opsD_run 2 (l' := (opsAt g43p18).toList.drop 7) (eE := E15) (H' := (mkH [⟨(y7_1).flatMap e3, 0, false⟩])) (hs := []) (by kernel_rfl) (opsD_env (eE := [(66, .bool false), (65, .bool false), (64, .int .u8 x4_4), (63, .str a0), (62, .int .u8 x4_2), (61, .int .i64 y7_0), (60, .str a0), (44, .bool false), (44, .bool (decide (x2_2 = 92))), (48, .bool (decide (x2_2 = 92))), (47, .int .u8 x2_2), (46, .int .i64 y7_0), (45, .str a0), (0, .str a0), (4, .own 0 (y7_1).length 1), (5, .int .i64 y7_0), (6, .int .i64 (fW .i64 ((a0.length : Int) - 1))), (7, .int .i64 x1_2.1), (8, .int .i64 x1_2.2)]) (congrArg (fun z : Bool => ([(66, .bool z), (65, .bool z), (64, .int .u8 x4_4), (63, .str a0), (62, .int .u8 x4_2), (61, .int .i64 y7_0), (60, .str a0), (44, .bool false), (44, .bool (decide (x2_2 = 92))), (48, .bool (decide (x2_2 = 92))), (47, .int .u8 x2_2), (46, .int .i64 y7_0), (45, .str a0), (0, .str a0), (4, .own 0 (y7_1).length 1), (5, .int .i64 y7_0), (6, .int .i64 (fW .i64 ((a0.length : Int) - 1))), (7, .int .i64 x1_2.1), (8, .int .i64 x1_2.2)] : Env)) hb8) (opsD_run 4 (l' := (opsAt g43p18).toList.drop 11) (eE := E17) (H' := (mkH [⟨(y7_1).flatMap e3, 0, false⟩])) (hs := []) (by kernel_rfl) (.nil)))))))) (by kernel_rfl) (by kernel_rfl) (by kernel_rfl) ?_
       refine oK [0, 4, 5, 6, 7, 8, 59] (eE := [(0, .str a0), (4, .own 0 (y7_1).length 1), (5, .int .i64 y7_0), (6, .int .i64 (fW .i64 ((a0.length : Int) - 1))), (7, .int .i64 x1_2.1), (8, .int .i64 x1_2.2), (59, .bool (decide (x1_2.1 < 32)))]) (by kernel_rfl) ?_
       exact hj9 (decide (x1_2.1 < 32), y7_0, y7_1)
  ·refine oR 9 (p' := g43p13) (eE := ((79, .bool (!decide (y7_0 = fW .i64 ((a0.length : Int) - 1)))) :: (78, .int .i64 (fW .i64 ((a0.length : Int) - 1))) :: (77, .int .i64 y7_0) :: (37, .bool false) :: E3)) (H' := (mkH [⟨(y7_1).flatMap e3, 0, false⟩])) (by kernel_rfl) ?_
   refine oK [4, 79] (eE := [(4, .own 0 (y7_1).length 1), (79, .bool (!decide (y7_0 = fW .i64 ((a0.length : Int) - 1))))]) (by kernel_rfl) ?_
   refine oS 79 (b := !decide (y7_0 = fW .i64 ((a0.length : Int) - 1))) (by kernel_rfl) (fun hb => ?_) (fun hb => ?_)
   ·let E18 : Env := [(3, .int .i64 8), (2, .nils), (79, .bool true), (4, .own 0 (y7_1).length 1), (79, .bool (!decide (y7_0 = fW .i64 ((a0.length : Int) - 1))))]
    refine oR 7 (p' := .fin) (eE := E18) (H' := (mkH [⟨(y7_1).flatMap e3, 0, false⟩])) (by kernel_rfl) ?_
    exact oT (r := (([] : List Int), (8 : Int))) (xs := [.nils, .int .i64 8]) (v := .tuple [.vec 0 1 [], .int .i64 8]) (by kernel_rfl) (by kernel_rfl) (by kernel_rfl) (.tuple (.nil (.pures (by kernel_rfl))) (.pures (by kernel_rfl))) (by kernel_rfl)
   ·let E19 : Env := [(3, .int .i64 0), (2, .own 0 (y7_1).length 1), (80, .own 0 (y7_1).length 1), (79, .bool false), (4, .own 0 (y7_1).length 1), (79, .bool (!decide (y7_0 = fW .i64 ((a0.length : Int) - 1))))]
    refine oR 9 (p' := .fin) (eE := E19) (H' := (mkH [⟨(y7_1).flatMap e3, 0, false⟩])) (by kernel_rfl) ?_
    exact oT (r := (y7_1, (0 : Int))) (xs := [.own 0 (y7_1).length 1, .int .i64 0]) (v := .tuple [.vec (y7_1).length 1 ((y7_1).flatMap e3), .int .i64 0]) (by kernel_rfl) (by kernel_rfl) (by kernel_rfl) (.tuple (fz_own e3_len e3_pur rfl rfl (.pures (by kernel_rfl))) (.pures (by kernel_rfl))) (by kernel_rfl)
def g43 (k : Nat) (a0 : (List Nat)) : Option ((List Int) × Int) :=
 jn (fun (z6 : Bool) => if z6 then (some (([] : List Int), (8 : Int))) else (g43_l7 k a0 k 1 ([] : List Int))) (fun j6 => if (decide ((a0.length : Int) < 2)) then (j6 true) else ((nthS a0 0).bind fun x0_5 => if (!decide (x0_5 = 34)) then ((nthS a0 0).bind fun x0_9 => if (!decide (x0_9 = 39)) then (j6 true) else ((nthS a0 (fW .i64 ((a0.length : Int) - 1))).bind fun x0_18 => (nthS a0 0).bind fun x0_20 => j6 (!decide (x0_18 = x0_20)))) else ((nthS a0 (fW .i64 ((a0.length : Int) - 1))).bind fun x0_18 => (nthS a0 0).bind fun x0_20 => j6 (!decide (x0_18 = x0_20)))))
theorem g43_ok (k : Nat) (a0 : (List Nat)) (r : ((List Int) × Int)) (h : g43 k a0 = some r) : PureOk Try.prog 43 [.str a0] (.tuple [.vec (r.1).length 1 ((r.1).flatMap e3), .int .i64 r.2]) := by
 refine pure_of X43 (fun _ => rfl) Try.func43 (by decide +kernel) (by kernel_rfl) (t := g43 k a0) ?_ h
 unfold g43
 refine oE (eE := [(0, .str a0)]) (by kernel_rfl) ?_
 refine oR 7 (p' := g43p1) (eE := [(3, .int .i64 0), (2, .nils), (0, .str a0)]) (H' := (mkH [])) (by kernel_rfl) ?_
 refine oJ (f := fun (z6 : Bool) => if z6 then (some (([] : List Int), (8 : Int))) else (g43_l7 k a0 k 1 ([] : List Int))) g43p2 (fun (z6 : Bool) => [(0, .str a0), (31, .bool z6)]) (fun (z6 : Bool) => (mkH [])) (fun z6 => ?_) (fun j6 hj6 => ?_)
 ·refine oS 31 (b := z6) (by kernel_rfl) (fun hb => ?_) (fun hb => ?_)
  ·let E1 : Env := [(3, .int .i64 8), (2, .nils), (31, .bool true), (0, .str a0), (31, .bool z6)]
   refine oR 7 (p' := .fin) (eE := E1) (H' := (mkH [])) (by kernel_rfl) ?_
   exact oT (r := (([] : List Int), (8 : Int))) (xs := [.nils, .int .i64 8]) (v := .tuple [.vec 0 1 [], .int .i64 8]) (by kernel_rfl) (by kernel_rfl) (by kernel_rfl) (.tuple (.nil (.pures (by kernel_rfl))) (.pures (by kernel_rfl))) (by kernel_rfl)
  ·refine oR 5 (p' := (atN 1 (ctl1 g43p4))) (eE := [(4, .nils), (31, .bool false), (0, .str a0), (31, .bool z6)]) (H' := (mkH [])) (by kernel_rfl) ?_
   refine ok_own [] 4 1 rfl (by kernel_rfl) ?_
   refine oE (eE := [(4, .own 0 (([] : List Int)).length 1), (4, .nils), (31, .bool false), (0, .str a0), (31, .bool z6)]) (by kernel_rfl) ?_
   refine ok_heap (H' := (mkH [⟨(([] : List Int)).flatMap e3, 0, false⟩])) (by kernel_rfl) ?_
   let E2 : Env := [(6, .int .i64 (fW .i64 ((a0.length : Int) - 1))), (5, .int .i64 1), (34, .int .i64 (fW .i64 ((a0.length : Int) - 1))), (33, .int .i64 (a0.length : Int)), (32, .str a0), (4, .own 0 (([] : List Int)).length 1), (4, .nils), (31, .bool false), (0, .str a0), (31, .bool z6)]
   refine oR 12 (p' := g43p7) (eE := E2) (H' := (mkH [⟨(([] : List Int)).flatMap e3, 0, false⟩])) (by kernel_rfl) ?_
   refine oK [0, 4, 5, 6] (eE := [(0, .str a0), (4, .own 0 (([] : List Int)).length 1), (5, .int .i64 1), (6, .int .i64 (fW .i64 ((a0.length : Int) - 1)))]) (by kernel_rfl) ?_
   exact (g43_l7_ok k a0 k) 1 ([] : List Int)
 ·refine ok_if (fun hb2 => ?_) (fun hb2 => ?_)
  ·let E20 : Env := [(12, .bool (decide ((a0.length : Int) < 2))), (11, .bool (decide ((a0.length : Int) < 2))), (10, .int .i64 (a0.length : Int)), (9, .str a0), (3, .int .i64 0), (2, .nils), (0, .str a0)]
   let E21 : Env := [(31, .bool true), (30, .tuple []), (29, .tuple []), (28, .tuple []), (27, .tuple []), (26, .tuple []), (25, .tuple []), (24, .tuple []), (23, .tuple []), (22, .bool true), (21, .bool true), (20, .tuple []), (19, .tuple []), (18, .tuple []), (17, .tuple []), (16, .tuple []), (15, .tuple []), (14, .tuple []), (13, .tuple []), (12, .bool true), (11, .bool true), (10, .int .i64 (a0.length : Int)), (9, .str a0), (3, .int .i64 0), (2, .nils), (0, .str a0)]
   refine ok_draw (p' := nav [0] g43p1) (eE := E21) (H' := (mkH [])) (hs := []) [(0, 0, 0), (1, 0, 0), (3, 0, 0), (7, 0, 0), (15, 0, 0), (31, 0, 0), (63, 0, 0), (127, 0, 0), (255, 0, 0), (511, 0, 0), (1023, 0, 0), (2047, 0, 0), (4095, 0, 0), (8191, 0, 0), (16383, 0, 0), (16383, 0, 0), (49151, 0, 0), (114687, 0, 0), (262143, 0, 0), (16383, 0, 0), (540671, 0, 0), (2097151, 0, 0), (4194303, 0, 0)] (by kernel_rfl) (by kernel_rfl) (by kernel_rfl) (opsD_run 4 (l' := (opsAt g43p1).toList.drop 4) (eE := E20) (H' := (mkH [])) (hs := []) (by kernel_rfl) (opsD_env (eE := [(12, .bool true), (11, .bool true), (10, .int .i64 (a0.length : Int)), (9, .str a0), (3, .int .i64 0), (2, .nils), (0, .str a0)]) (congrArg (fun z : Bool => ([(12, .bool z), (11, .bool z), (10, .int .i64 (a0.length : Int)), (9, .str a0), (3, .int .i64 0), (2, .nils), (0, .str a0)] : Env)) hb2) (opsD_run 19 (l' := (opsAt g43p1).toList.drop 23) (eE := E21) (H' := (mkH [])) (hs := []) (by kernel_rfl) (.nil)))) (by kernel_rfl) (by kernel_rfl) (by kernel_rfl) ?_
   refine oK [0, 31] (eE := [(0, .str a0), (31, .bool true)]) (by kernel_rfl) ?_
   exact hj6 true
  ·refine ok_bind (fun x0_5 hx0_5 => ?_)
   refine ok_if (fun hb3 => ?_) (fun hb3 => ?_)
   ·refine ok_bind (fun x0_9 hx0_9 => ?_)
    refine ok_if (fun hb4 => ?_) (fun hb4 => ?_)
    ·let E20 : Env := [(12, .bool (decide ((a0.length : Int) < 2))), (11, .bool (decide ((a0.length : Int) < 2))), (10, .int .i64 (a0.length : Int)), (9, .str a0), (3, .int .i64 0), (2, .nils), (0, .str a0)]
     let E22 : Env := [(13, .str a0), (12, .bool false), (11, .bool false), (10, .int .i64 (a0.length : Int)), (9, .str a0), (3, .int .i64 0), (2, .nils), (0, .str a0)]
     let E23 : Env := ((18, .int .u8 x0_9) :: (17, .str a0) :: (16, .bool true) :: (15, .bool true) :: (14, .int .u8 x0_5) :: E22)
     let E24 : Env := ((31, .bool true) :: (30, .tuple []) :: (29, .tuple []) :: (28, .tuple []) :: (27, .tuple []) :: (26, .tuple []) :: (25, .tuple []) :: (24, .tuple []) :: (23, .tuple []) :: (22, .bool true) :: (21, .bool true) :: (20, .bool true) :: (19, .bool true) :: E23)
     refine ok_draw (p' := nav [0] g43p1) (eE := E24) (H' := (mkH [])) (hs := []) [(0, 0, 0), (1, 0, 0), (3, 0, 0), (7, 0, 0), (15, 0, 0), (31, 0, 0), (63, 0, 0), (127, 0, 0), (255, 0, 0), (511, 0, 0), (1023, 0, 0), (2047, 0, 0), (4095, 0, 0), (8191, 0, 0), (16383, 0, 0), (16383, 0, 0), (49151, 0, 0), (114687, 0, 0), (262143, 0, 0), (16383, 0, 0), (540671, 0, 0), (2097151, 0, 0), (4194303, 0, 0)] (by kernel_rfl) (by kernel_rfl) (by kernel_rfl) (opsD_run 4 (l' := (opsAt g43p1).toList.drop 4) (eE := E20) (H' := (mkH [])) (hs := []) (by kernel_rfl) (opsD_env (eE := [(12, .bool false), (11, .bool false), (10, .int .i64 (a0.length : Int)), (9, .str a0), (3, .int .i64 0), (2, .nils), (0, .str a0)]) (congrArg (fun z : Bool => ([(12, .bool z), (11, .bool z), (10, .int .i64 (a0.length : Int)), (9, .str a0), (3, .int .i64 0), (2, .nils), (0, .str a0)] : Env)) hb2) (opsD_run 1 (l' := (opsAt g43p1).toList.drop 5) (eE := E22) (H' := (mkH [])) (hs := []) (by kernel_rfl) (opsD_chk (l' := (opsAt g43p1).toList.drop 6) (eE := ((14, .int .u8 x0_5) :: E22)) (hs := []) (x := x0_5) (fun (x0_5 : Int) => (.int .u8 x0_5, (mkH []))) (idxH (by kernel_rfl)) hx0_5 (by kernel_rfl) (opsD_run 2 (l' := (opsAt g43p1).toList.drop 8) (eE := ((16, .bool (!decide (x0_5 = 34))) :: (15, .bool (!decide (x0_5 = 34))) :: (14, .int .u8 x0_5) :: E22)) (H' := (mkH [])) (hs := []) (by kernel_rfl) (opsD_env (eE := ((16, .bool true) :: (15, .bool true) :: (14, .int .u8 x0_5) :: E22)) (congrArg (fun z : Bool => (((16, .bool z) :: (15, .bool z) :: (14, .int .u8 x0_5) :: E22) : Env)) hb3) (opsD_run 1 (l' := (opsAt g43p1).toList.drop 9) (eE := ((17, .str a0) :: (16, .bool true) :: (15, .bool true) :: (14, .int .u8 x0_5) :: E22)) (H' := (mkH [])) (hs := []) (by kernel_rfl) (opsD_chk (l' := (opsAt g43p1).toList.drop 10) (eE := E23) (hs := []) (x := x0_9) (fun (x0_9 : Int) => (.int .u8 x0_9, (mkH []))) (idxH (by kernel_rfl)) hx0_9 (by kernel_rfl) (opsD_run 4 (l' := (opsAt g43p1).toList.drop 14) (eE := ((22, .bool (!decide (x0_9 = 39))) :: (21, .bool (!decide (x0_9 = 39))) :: (20, .bool (!decide (x0_9 = 39))) :: (19, .bool (!decide (x0_9 = 39))) :: E23)) (H' := (mkH [])) (hs := []) (by kernel_rfl) (opsD_env (eE := ((22, .bool true) :: (21, .bool true) :: (20, .bool true) :: (19, .bool true) :: E23)) (congrArg (fun z : Bool => (((22, .bool z) :: (21, .bool z) :: (20, .bool z) :: (19, .bool z) :: E23) : Env)) hb4) (opsD_run 9 (l' := (opsAt g43p1).toList.drop 23) (eE := E24) (H' := (mkH [])) (hs := []) (by kernel_rfl) (.nil)))))))))))) (by kernel_rfl) (by kernel_rfl) (by kernel_rfl) ?_
     refine oK [0, 31] (eE := [(0, .str a0), (31, .bool true)]) (by kernel_rfl) ?_
     exact hj6 true
    ·refine ok_bind (fun x0_18 hx0_18 => ?_)
     refine ok_bind (fun x0_20 hx0_20 => ?_)
     let E20 : Env := [(12, .bool (decide ((a0.length : Int) < 2))), (11, .bool (decide ((a0.length : Int) < 2))), (10, .int .i64 (a0.length : Int)), (9, .str a0), (3, .int .i64 0), (2, .nils), (0, .str a0)]
     let E22 : Env := [(13, .str a0), (12, .bool false), (11, .bool false), (10, .int .i64 (a0.length : Int)), (9, .str a0), (3, .int .i64 0), (2, .nils), (0, .str a0)]
     let E23 : Env := ((18, .int .u8 x0_9) :: (17, .str a0) :: (16, .bool true) :: (15, .bool true) :: (14, .int .u8 x0_5) :: E22)
     let E25 : Env := ((26, .int .i64 (fW .i64 ((a0.length : Int) - 1))) :: (25, .int .i64 (a0.length : Int)) :: (24, .str a0) :: (23, .str a0) :: (22, .bool false) :: (21, .bool false) :: (20, .bool false) :: (19, .bool false) :: E23)
     let E26 : Env := ((31, .bool (!decide (x0_18 = x0_20))) :: (30, .bool (!decide (x0_18 = x0_20))) :: (29, .int .u8 x0_20) :: (28, .str a0) :: (27, .int .u8 x0_18) :: E25)
     refine ok_draw (p' := nav [0] g43p1) (eE := E26) (H' := (mkH [])) (hs := []) [(0, 0, 0), (1, 0, 0), (3, 0, 0), (7, 0, 0), (15, 0, 0), (31, 0, 0), (63, 0, 0), (127, 0, 0), (255, 0, 0), (511, 0, 0), (1023, 0, 0), (2047, 0, 0), (4095, 0, 0), (8191, 0, 0), (16383, 0, 0), (16383, 0, 0), (49151, 0, 0), (114687, 0, 0), (262143, 0, 0), (16383, 0, 0), (540671, 0, 0), (2097151, 0, 0), (4194303, 0, 0)] (by kernel_rfl) (by kernel_rfl) (by kernel_rfl) (opsD_run 4 (l' := (opsAt g43p1).toList.drop 4) (eE := E20) (H' := (mkH [])) (hs := []) (by kernel_rfl) (opsD_env (eE := [(12, .bool false), (11, .bool false), (10, .int .i64 (a0.length : Int)), (9, .str a0), (3, .int .i64 0), (2, .nils), (0, .str a0)]) (congrArg (fun z : Bool => ([(12, .bool z), (11, .bool z), (10, .int .i64 (a0.length : Int)), (9, .str a0), (3, .int .i64 0), (2, .nils), (0, .str a0)] : Env)) hb2) (opsD_run 1 (l' := (opsAt g43p1).toList.drop 5) (eE := E22) (H' := (mkH [])) (hs := []) (by kernel_rfl) (opsD_chk (l' := (opsAt g43p1).toList.drop 6) (eE := ((14, .int .u8 x0_5) :: E22)) (hs := []) (x := x0_5) (fun (x0_5 : Int) => (.int .u8 x0_5, (mkH []))) (idxH (by kernel_rfl)) hx0_5 (by kernel_rfl) (opsD_run 2 (l' := (opsAt g43p1).toList.drop 8) (eE := ((16, .bool (!decide (x0_5 = 34))) :: (15, .bool (!decide (x0_5 = 34))) :: (14, .int .u8 x0_5) :: E22)) (H' := (mkH [])) (hs := []) (by kernel_rfl) (opsD_env (eE := ((16, .bool true) :: (15, .bool true) :: (14, .int .u8 x0_5) :: E22)) (congrArg (fun z : Bool => (((16, .bool z) :: (15, .bool z) :: (14, .int .u8 x0_5) :: E22) : Env)) hb3) (opsD_run 1 (l' := (opsAt g43p1).toList.drop 9) (eE := ((17, .str a0) :: (16, .bool true) :: (15, .bool true) :: (14, .int .u8 x0_5) :: E22)) (H' := (mkH [])) (hs := []) (by kernel_rfl) (opsD_chk (l' := (opsAt g43p1).toList.drop 10) (eE := E23) (hs := []) (x := x0_9) (fun (x0_9 : Int) => (.int .u8 x0_9, (mkH []))) (idxH (by kernel_rfl)) hx0_9 (by kernel_rfl) (opsD_run 4 (l' := (opsAt g43p1).toList.drop 14) (eE := ((22, .bool (!decide (x0_9 = 39))) :: (21, .bool (!decide (x0_9 = 39))) :: (20, .bool (!decide (x0_9 = 39))) :: (19, .bool (!decide (x0_9 = 39))) :: E23)) (H' := (mkH [])) (hs := []) (by kernel_rfl) (opsD_env (eE := ((22, .bool false) :: (21, .bool false) :: (20, .bool false) :: (19, .bool false) :: E23)) (congrArg (fun z : Bool => (((22, .bool z) :: (21, .bool z) :: (20, .bool z) :: (19, .bool z) :: E23) : Env)) hb4) (opsD_run 4 (l' := (opsAt g43p1).toList.drop 18) (eE := E25) (H' := (mkH [])) (hs := []) (by kernel_rfl) (opsD_chk (l' := (opsAt g43p1).toList.drop 19) (eE := ((27, .int .u8 x0_18) :: E25)) (hs := []) (x := x0_18) (fun (x0_18 : Int) => (.int .u8 x0_18, (mkH []))) (idxH (by kernel_rfl)) hx0_18 (by kernel_rfl) (opsD_run 1 (l' := (opsAt g43p1).toList.drop 20) (eE := ((28, .str a0) :: (27, .int .u8 x0_18) :: E25)) (H' := (mkH [])) (hs := []) (by kernel_rfl) (opsD_chk (l' := (opsAt g43p1).toList.drop 21) (eE := ((29, .int .u8 x0_20) :: (28, .str a0) :: (27, .int .u8 x0_18) :: E25)) (hs := []) (x := x0_20) (fun (x0_20 : Int) => (.int .u8 x0_20, (mkH []))) (idxH (by kernel_rfl)) hx0_20 (by kernel_rfl) (opsD_run 2 (l' := (opsAt g43p1).toList.drop 23) (eE := E26) (H' := (mkH [])) (hs := []) (by kernel_rfl) (.nil)))))))))))))))) (by kernel_rfl) (by kernel_rfl) (by kernel_rfl) ?_
     refine oK [0, 31] (eE := [(0, .str a0), (31, .bool (!decide (x0_18 = x0_20)))]) (by kernel_rfl) ?_
     exact hj6 (!decide (x0_18 = x0_20))
   ·refine ok_bind (fun x0_18 hx0_18 => ?_)
    refine ok_bind (fun x0_20 hx0_20 => ?_)
    let E20 : Env := [(12, .bool (decide ((a0.length : Int) < 2))), (11, .bool (decide ((a0.length : Int) < 2))), (10, .int .i64 (a0.length : Int)), (9, .str a0), (3, .int .i64 0), (2, .nils), (0, .str a0)]
    let E22 : Env := [(13, .str a0), (12, .bool false), (11, .bool false), (10, .int .i64 (a0.length : Int)), (9, .str a0), (3, .int .i64 0), (2, .nils), (0, .str a0)]
    let E27 : Env := ((26, .int .i64 (fW .i64 ((a0.length : Int) - 1))) :: (25, .int .i64 (a0.length : Int)) :: (24, .str a0) :: (23, .str a0) :: (22, .bool false) :: (21, .bool false) :: (20, .bool false) :: (19, .tuple []) :: (18, .tuple []) :: (17, .tuple []) :: (16, .bool false) :: (15, .bool false) :: (14, .int .u8 x0_5) :: E22)
    let E28 : Env := ((31, .bool (!decide (x0_18 = x0_20))) :: (30, .bool (!decide (x0_18 = x0_20))) :: (29, .int .u8 x0_20) :: (28, .str a0) :: (27, .int .u8 x0_18) :: E27)
    refine ok_draw (p' := nav [0] g43p1) (eE := E28) (H' := (mkH [])) (hs := []) [(0, 0, 0), (1, 0, 0), (3, 0, 0), (7, 0, 0), (15, 0, 0), (31, 0, 0), (63, 0, 0), (127, 0, 0), (255, 0, 0), (511, 0, 0), (1023, 0, 0), (2047, 0, 0), (4095, 0, 0), (8191, 0, 0), (16383, 0, 0), (16383, 0, 0), (49151, 0, 0), (114687, 0, 0), (262143, 0, 0), (16383, 0, 0), (540671, 0, 0), (2097151, 0, 0), (4194303, 0, 0)] (by kernel_rfl) (by kernel_rfl) (by kernel_rfl) (opsD_run 4 (l' := (opsAt g43p1).toList.drop 4) (eE := E20) (H' := (mkH [])) (hs := []) (by kernel_rfl) (opsD_env (eE := [(12, .bool false), (11, .bool false), (10, .int .i64 (a0.length : Int)), (9, .str a0), (3, .int .i64 0), (2, .nils), (0, .str a0)]) (congrArg (fun z : Bool => ([(12, .bool z), (11, .bool z), (10, .int .i64 (a0.length : Int)), (9, .str a0), (3, .int .i64 0), (2, .nils), (0, .str a0)] : Env)) hb2) (opsD_run 1 (l' := (opsAt g43p1).toList.drop 5) (eE := E22) (H' := (mkH [])) (hs := []) (by kernel_rfl) (opsD_chk (l' := (opsAt g43p1).toList.drop 6) (eE := ((14, .int .u8 x0_5) :: E22)) (hs := []) (x := x0_5) (fun (x0_5 : Int) => (.int .u8 x0_5, (mkH []))) (idxH (by kernel_rfl)) hx0_5 (by kernel_rfl) (opsD_run 2 (l' := (opsAt g43p1).toList.drop 8) (eE := ((16, .bool (!decide (x0_5 = 34))) :: (15, .bool (!decide (x0_5 = 34))) :: (14, .int .u8 x0_5) :: E22)) (H' := (mkH [])) (hs := []) (by kernel_rfl) (opsD_env (eE := ((16, .bool false) :: (15, .bool false) :: (14, .int .u8 x0_5) :: E22)) (congrArg (fun z : Bool => (((16, .bool z) :: (15, .bool z) :: (14, .int .u8 x0_5) :: E22) : Env)) hb3) (opsD_run 10 (l' := (opsAt g43p1).toList.drop 18) (eE := E27) (H' := (mkH [])) (hs := []) (by kernel_rfl) (opsD_chk (l' := (opsAt g43p1).toList.drop 19) (eE := ((27, .int .u8 x0_18) :: E27)) (hs := []) (x := x0_18) (fun (x0_18 : Int) => (.int .u8 x0_18, (mkH []))) (idxH (by kernel_rfl)) hx0_18 (by kernel_rfl) (opsD_run 1 (l' := (opsAt g43p1).toList.drop 20) (eE := ((28, .str a0) :: (27, .int .u8 x0_18) :: E27)) (H' := (mkH [])) (hs := []) (by kernel_rfl) (opsD_chk (l' := (opsAt g43p1).toList.drop 21) (eE := ((29, .int .u8 x0_20) :: (28, .str a0) :: (27, .int .u8 x0_18) :: E27)) (hs := []) (x := x0_20) (fun (x0_20 : Int) => (.int .u8 x0_20, (mkH []))) (idxH (by kernel_rfl)) hx0_20 (by kernel_rfl) (opsD_run 2 (l' := (opsAt g43p1).toList.drop 23) (eE := E28) (H' := (mkH [])) (hs := []) (by kernel_rfl) (.nil)))))))))))) (by kernel_rfl) (by kernel_rfl) (by kernel_rfl) ?_
    refine oK [0, 31] (eE := [(0, .str a0), (31, .bool (!decide (x0_18 = x0_20)))]) (by kernel_rfl) ?_
    exact hj6 (!decide (x0_18 = x0_20))
end
end Go.Proofs.Ytabhkocokojddaa.Am
set_option maxRecDepth 100000
set_option linter.unusedVariables false
namespace Go.Proofs.Ytabhkocokojddaa.Am
noncomputable section
open Go
def X45 : Fx Bool := ⟨Try.prog, cx, Try.f45, fun r => .bool r, 0, fun _ => H0, cxTi, cxOrd⟩
def g45p0 : Pt := nav [0] (bodyAt Try.f45)
def g45p1 : Pt := nav [0, 0, 0] g45p0
def g45 (k : Nat) (a0 : (List Nat)) : Option Bool :=
 if (!(eqL a0 [])) then ((g83 k a0).bind fun x0_4 => some (decide (x0_4 = (a0.length : Int)))) else (some false)
theorem g45_ok (k : Nat) (a0 : (List Nat)) (r : Bool) (h : g45 k a0 = some r) : PureOk Try.prog 45 [.str a0] (.bool r) := by
 refine pure_of X45 (fun _ => rfl) Try.func45 (by decide +kernel) (by kernel_rfl) (t := g45 k a0) ?_ h
 unfold g45
 refine oE (eE := [(0, .str a0)]) (by kernel_rfl) ?_
 let E1 : Env := [(5, .bool (!(eqL a0 []))), (4, .bool (!(eqL a0 []))), (3, .str a0), (2, .bool false), (0, .str a0)]
 refine oR 9 (p' := (atN 3 (ctl1 g45p1))) (eE := E1) (H' := (mkH [])) (by kernel_rfl) ?_
 refine oS 5 (b := !(eqL a0 [])) (by kernel_rfl) (fun hb => ?_) (fun hb => ?_)
 ·refine oR 1 (p' := (atN 4 (ctl1 g45p1))) (eE := ((6, .str a0) :: (5, .bool true) :: E1)) (H' := (mkH [])) (by kernel_rfl) ?_
  refine oC (fun (x0_4 : Int) => .int .i64 x0_4) (atN 5 (ctl1 g45p1)) (fun x0_4 => ((7, .int .i64 x0_4) :: (6, .str a0) :: (5, .bool true) :: E1)) (fi := 83) (args := [.str a0]) (by kernel_rfl) (by kernel_rfl) (fun _ => by kernel_rfl) (fun r h => g83_ok k a0 r h) (fun _ => by kernel_rfl) (fun x0_4 hx0_4 => ?_)
  let E2 : Env := ((2, .bool (decide (x0_4 = (a0.length : Int)))) :: (11, .bool (decide (x0_4 = (a0.length : Int)))) :: (10, .bool (decide (x0_4 = (a0.length : Int)))) :: (9, .int .i64 (a0.length : Int)) :: (8, .str a0) :: (7, .int .i64 x0_4) :: (6, .str a0) :: (5, .bool true) :: E1)
  refine oR 7 (p' := .fin) (eE := E2) (H' := (mkH [])) (by kernel_rfl) ?_
  exact oT (r := (decide (x0_4 = (a0.length : Int)))) (xs := [.bool (decide (x0_4 = (a0.length : Int)))]) (v := .bool (decide (x0_4 = (a0.length : Int)))) (by kernel_rfl) (by kernel_rfl) (by kernel_rfl) (.pures (by kernel_rfl)) (by kernel_rfl)
 ·let E3 : Env := ((2, .bool false) :: (11, .bool false) :: (10, .tuple []) :: (9, .tuple []) :: (8, .tuple []) :: (7, .tuple []) :: (6, .tuple []) :: (5, .bool false) :: E1)
  refine oR 9 (p' := .fin) (eE := E3) (H' := (mkH [])) (by kernel_rfl) ?_
  exact oT (r := false) (xs := [.bool false]) (v := .bool false) (by kernel_rfl) (by kernel_rfl) (by kernel_rfl) (.pures (by kernel_rfl)) (by kernel_rfl)
end
end Go.Proofs.Ytabhkocokojddaa.Am
set_option maxRecDepth 100000
set_option linter.unusedVariables false
namespace Go.Proofs.Ytabhkocokojddaa.Am
noncomputable section
open Go
def X36 : Fx Bool := ⟨Try.prog, cx, Try.f36, fun r => .bool r, 0, fun _ => H0, cxTi, cxOrd⟩
def g36c0 : List Nat := [49, 56, 52, 52, 54, 55, 52, 52, 48, 55, 51, 55, 48, 57, 53, 53, 49, 54, 49, 54]
def g36c1 : List Nat := [34, 97, 92, 120, 123, 101, 57, 125, 34]
def g36c2 : List Nat := [49, 46, 53, 101, 45, 51]
def g36p0 : Pt := nav [0] (bodyAt Try.f36)
def g36p1 : Pt := nav [0, 0, 0] g36p0
def g36p2 : Pt := nav [0, 0, 0] g36p1
def g36p3 : Pt := nav [0, 0, 0] g36p2
def g36p4 : Pt := nav [0, 0, 0] g36p3
def g36p5 : Pt := nav [0, 0, 0] g36p4
def g36p6 : Pt := nav [0, 0, 0] g36p5
def g36 (k : Nat)  : Option Bool :=
 (g37 k ([49, 54, 35, 70, 70] : List Nat)).bind fun x0_0 => (g37 k g36c0).bind fun x1_0 => (g39 k ([36, 92, 110] : List Nat)).bind fun x2_0 => (g43 k g36c1).bind fun x3_0 => (g41 k ([92, 49, 48, 49] : List Nat) (0 : Int)).bind fun x4_0 => if (decide (x0_0.2 = 0)) then (if (decide (x0_0.1 = 255)) then (if (decide (x1_0.2 = 6)) then (if (decide (x2_0.2 = 0)) then (if (decide (x2_0.1 = 10)) then (if (decide (x3_0.2 = 0)) then (if (decide ((x3_0.1.length : Int) = 2)) then ((nthL x3_0.1 1).bind fun x5_29 => if (decide (x5_29 = 233)) then (if (decide (x4_0.1 = 65)) then (if (decide (x4_0.2 = 4)) then ((g45 k g36c2).bind fun x5_42 => if x5_42 then ((g45 k ([49, 46] : List Nat)).bind fun x5_45 => some (!x5_45)) else (some false)) else (some false)) else (some false)) else (some false)) else (some false)) else (some false)) else (some false)) else (some false)) else (some false)) else (some false)) else (some false)
theorem g36_ok (k : Nat)  (r : Bool) (h : g36 k  = some r) : PureOk Try.prog 36 [] (.bool r) := by
 refine pure_of X36 (fun _ => rfl) Try.func36 (by decide +kernel) (by kernel_rfl) (t := g36 k ) ?_ h
 unfold g36
 refine oE (eE := []) (by kernel_rfl) ?_
 refine oR 6 (p' := (atN 0 (ctl1 g36p1))) (eE := [(0, .bool false)]) (H' := (mkH [])) (by kernel_rfl) ?_
 refine oC (fun (x0_0 : (Int × Int)) => .tuple [.int .u64 x0_0.1, .int .i64 x0_0.2]) (atN 1 (ctl1 g36p1)) (fun x0_0 => [(12, .tuple [.int .u64 x0_0.1, .int .i64 x0_0.2]), (0, .bool false)]) (fi := 37) (args := [.str [49, 54, 35, 70, 70]]) (by kernel_rfl) (by kernel_rfl) (fun _ => by kernel_rfl) (fun r h => g37_ok k ([49, 54, 35, 70, 70] : List Nat) r h) (fun _ => by kernel_rfl) (fun x0_0 hx0_0 => ?_)
 let E1 : Env := [(2, .int .i64 x0_0.2), (1, .int .u64 x0_0.1), (14, .int .i64 x0_0.2), (13, .int .u64 x0_0.1), (11, .tuple [.int .u64 x0_0.1, .int .i64 x0_0.2]), (12, .tuple [.int .u64 x0_0.1, .int .i64 x0_0.2]), (0, .bool false)]
 refine oR 8 (p' := (atN 0 (ctl1 g36p2))) (eE := E1) (H' := (mkH [])) (by kernel_rfl) ?_
 refine oC (fun (x1_0 : (Int × Int)) => .tuple [.int .u64 x1_0.1, .int .i64 x1_0.2]) (atN 1 (ctl1 g36p2)) (fun x1_0 => ((16, .tuple [.int .u64 x1_0.1, .int .i64 x1_0.2]) :: E1)) (fi := 37) (args := [.str g36c0]) (by kernel_rfl) (by kernel_rfl) (fun _ => by kernel_rfl) (fun r h => g37_ok k g36c0 r h) (fun _ => by kernel_rfl) (fun x1_0 hx1_0 => ?_)
 let E2 : Env := ((4, .int .i64 x1_0.2) :: (3, .int .u64 x1_0.1) :: (18, .int .i64 x1_0.2) :: (17, .int .u64 x1_0.1) :: (15, .tuple [.int .u64 x1_0.1, .int .i64 x1_0.2]) :: (16, .tuple [.int .u64 x1_0.1, .int .i64 x1_0.2]) :: E1)
 refine oR 7 (p' := g36p3) (eE := E2) (H' := (mkH [])) (by kernel_rfl) ?_
 refine oK [1, 2, 4] (eE := [(1, .int .u64 x0_0.1), (2, .int .i64 x0_0.2), (4, .int .i64 x1_0.2)]) (by kernel_rfl) ?_
 refine oR 1 (p' := (atN 0 (ctl1 g36p3))) (eE := [(1, .int .u64 x0_0.1), (2, .int .i64 x0_0.2), (4, .int .i64 x1_0.2)]) (H' := (mkH [])) (by kernel_rfl) ?_
 refine oC (fun (x2_0 : (Int × Int)) => .tuple [.int .i64 x2_0.1, .int .i64 x2_0.2]) (atN 1 (ctl1 g36p3)) (fun x2_0 => [(20, .tuple [.int .i64 x2_0.1, .int .i64 x2_0.2]), (1, .int .u64 x0_0.1), (2, .int .i64 x0_0.2), (4, .int .i64 x1_0.2)]) (fi := 39) (args := [.str [36, 92, 110]]) (by kernel_rfl) (by kernel_rfl) (fun _ => by kernel_rfl) (fun r h => g39_ok k ([36, 92, 110] : List Nat) r h) (fun _ => by kernel_rfl) (fun x2_0 hx2_0 => ?_)
 let E3 : Env := [(6, .int .i64 x2_0.2), (5, .int .i64 x2_0.1), (22, .int .i64 x2_0.2), (21, .int .i64 x2_0.1), (19, .tuple [.int .i64 x2_0.1, .int .i64 x2_0.2]), (20, .tuple [.int .i64 x2_0.1, .int .i64 x2_0.2]), (1, .int .u64 x0_0.1), (2, .int .i64 x0_0.2), (4, .int .i64 x1_0.2)]
 refine oR 8 (p' := (atN 0 (ctl1 g36p4))) (eE := E3) (H' := (mkH [])) (by kernel_rfl) ?_
 refine oC (fun (x3_0 : ((List Int) × Int)) => .tuple [.vec (x3_0.1).length 1 ((x3_0.1).flatMap e3), .int .i64 x3_0.2]) (atN 1 (ctl1 g36p4)) (fun x3_0 => ((24, .tuple [.vec (x3_0.1).length 1 ((x3_0.1).flatMap e3), .int .i64 x3_0.2]) :: E3)) (fi := 43) (args := [.str g36c1]) (by kernel_rfl) (by kernel_rfl) (fun _ => by kernel_rfl) (fun r h => g43_ok k g36c1 r h) (fun _ => by kernel_rfl) (fun x3_0 hx3_0 => ?_)
 let E4 : Env := ((8, .int .i64 x3_0.2) :: (7, .vec (x3_0.1).length 1 ((x3_0.1).flatMap e3)) :: (26, .int .i64 x3_0.2) :: (25, .vec (x3_0.1).length 1 ((x3_0.1).flatMap e3)) :: (23, .tuple [.vec (x3_0.1).length 1 ((x3_0.1).flatMap e3), .int .i64 x3_0.2]) :: (24, .tuple [.vec (x3_0.1).length 1 ((x3_0.1).flatMap e3), .int .i64 x3_0.2]) :: E3)
 refine oR 7 (p' := g36p5) (eE := E4) (H' := (mkH [])) (by kernel_rfl) ?_
 refine oK [1, 2, 4, 5, 6, 7, 8] (eE := [(1, .int .u64 x0_0.1), (2, .int .i64 x0_0.2), (4, .int .i64 x1_0.2), (5, .int .i64 x2_0.1), (6, .int .i64 x2_0.2), (7, .vec (x3_0.1).length 1 ((x3_0.1).flatMap e3)), (8, .int .i64 x3_0.2)]) (by kernel_rfl) ?_
 let E5 : Env := [(1, .int .u64 x0_0.1), (2, .int .i64 x0_0.2), (4, .int .i64 x1_0.2), (5, .int .i64 x2_0.1), (6, .int .i64 x2_0.2), (7, .vec (x3_0.1).length 1 ((x3_0.1).flatMap e3)), (8, .int .i64 x3_0.2)]
 refine oR 1 (p' := (atN 0 (ctl1 g36p5))) (eE := E5) (H' := (mkH [])) (by kernel_rfl) ?_
 refine oC (fun (x4_0 : (Int × Int)) => .tuple [.int .i64 x4_0.1, .int .i64 x4_0.2]) (atN 1 (ctl1 g36p5)) (fun x4_0 => ((28, .tuple [.int .i64 x4_0.1, .int .i64 x4_0.2]) :: E5)) (fi := 41) (args := [.str [92, 49, 48, 49], .int .i64 0]) (by kernel_rfl) (by kernel_rfl) (fun _ => by kernel_rfl) (fun r h => g41_ok k ([92, 49, 48, 49] : List Nat) (0 : Int) r h) (fun _ => by kernel_rfl) (fun x4_0 hx4_0 => ?_)
 let E6 : Env := ((33, .bool (decide (x0_0.2 = 0))) :: (32, .bool (decide (x0_0.2 = 0))) :: (31, .int .i64 x0_0.2) :: (10, .int .i64 x4_0.2) :: (9, .int .i64 x4_0.1) :: (30, .int .i64 x4_0.2) :: (29, .int .i64 x4_0.1) :: (27, .tuple [.int .i64 x4_0.1, .int .i64 x4_0.2]) :: (28, .tuple [.int .i64 x4_0.1, .int .i64 x4_0.2]) :: E5)
 refine oR 11 (p' := (atN 3 (ctl1 g36p6))) (eE := E6) (H' := (mkH [])) (by kernel_rfl) ?_
 refine oS 33 (b := decide (x0_0.2 = 0)) (by kernel_rfl) (fun hb => ?_) (fun hb => ?_)
 ·let E7 : Env := ((37, .bool (decide (x0_0.1 = 255))) :: (36, .bool (decide (x0_0.1 = 255))) :: (35, .bool (decide (x0_0.1 = 255))) :: (34, .int .u64 x0_0.1) :: (33, .bool true) :: E6)
  refine oR 4 (p' := (atN 7 (ctl1 g36p6))) (eE := E7) (H' := (mkH [])) (by kernel_rfl) ?_
  refine oS 37 (b := decide (x0_0.1 = 255)) (by kernel_rfl) (fun hb => ?_) (fun hb => ?_)
  ·let E8 : Env := ((41, .bool (decide (x1_0.2 = 6))) :: (40, .bool (decide (x1_0.2 = 6))) :: (39, .bool (decide (x1_0.2 = 6))) :: (38, .int .i64 x1_0.2) :: (37, .bool true) :: E7)
   refine oR 4 (p' := (atN 11 (ctl1 g36p6))) (eE := E8) (H' := (mkH [])) (by kernel_rfl) ?_
   refine oS 41 (b := decide (x1_0.2 = 6)) (by kernel_rfl) (fun hb => ?_) (fun hb => ?_)
   ·let E9 : Env := ((45, .bool (decide (x2_0.2 = 0))) :: (44, .bool (decide (x2_0.2 = 0))) :: (43, .bool (decide (x2_0.2 = 0))) :: (42, .int .i64 x2_0.2) :: (41, .bool true) :: E8)
    refine oR 4 (p' := (atN 15 (ctl1 g36p6))) (eE := E9) (H' := (mkH [])) (by kernel_rfl) ?_
    refine oS 45 (b := decide (x2_0.2 = 0)) (by kernel_rfl) (fun hb => ?_) (fun hb => ?_)
    ·let E10 : Env := ((49, .bool (decide (x2_0.1 = 10))) :: (48, .bool (decide (x2_0.1 = 10))) :: (47, .bool (decide (x2_0.1 = 10))) :: (46, .int .i64 x2_0.1) :: (45, .bool true) :: E9)
     refine oR 4 (p' := (atN 19 (ctl1 g36p6))) (eE := E10) (H' := (mkH [])) (by kernel_rfl) ?_
     refine oS 49 (b := decide (x2_0.1 = 10)) (by kernel_rfl) (fun hb => ?_) (fun hb => ?_)
     ·let E11 : Env := ((53, .bool (decide (x3_0.2 = 0))) :: (52, .bool (decide (x3_0.2 = 0))) :: (51, .bool (decide (x3_0.2 = 0))) :: (50, .int .i64 x3_0.2) :: (49, .bool true) :: E10)
      refine oR 4 (p' := (atN 23 (ctl1 g36p6))) (eE := E11) (H' := (mkH [])) (by kernel_rfl) ?_
      refine oS 53 (b := decide (x3_0.2 = 0)) (by kernel_rfl) (fun hb => ?_) (fun hb => ?_)
      ·let E12 : Env := ((58, .bool (decide ((x3_0.1.length : Int) = 2))) :: (57, .bool (decide ((x3_0.1.length : Int) = 2))) :: (56, .bool (decide ((x3_0.1.length : Int) = 2))) :: (55, .int .i64 (x3_0.1.length : Int)) :: (54, .vec (x3_0.1).length 1 ((x3_0.1).flatMap e3)) :: (53, .bool true) :: E11)
       refine oR 5 (p' := (atN 28 (ctl1 g36p6))) (eE := E12) (H' := (mkH [])) (by kernel_rfl) ?_
       refine oS 58 (b := decide ((x3_0.1.length : Int) = 2)) (by kernel_rfl) (fun hb => ?_) (fun hb => ?_)
       ·refine oR 1 (p' := (atN 29 (ctl1 g36p6))) (eE := ((59, .vec (x3_0.1).length 1 ((x3_0.1).flatMap e3)) :: (58, .bool true) :: E12)) (H' := (mkH [])) (by kernel_rfl) ?_
        refine oH (fun (x5_29 : Int) => (.vptr [.int .i64 x5_29], (mkH []))) (atN 30 (ctl1 g36p6)) (fun x5_29 => ((60, .vptr [.int .i64 x5_29]) :: (59, .vec (x3_0.1).length 1 ((x3_0.1).flatMap e3)) :: (58, .bool true) :: E12)) (vidxH (sz := 1) e3_len (by kernel_rfl)) (fun _ => by kernel_rfl) (fun x5_29 hx5_29 => ?_)
        let E13 : Env := ((64, .bool (decide (x5_29 = 233))) :: (63, .bool (decide (x5_29 = 233))) :: (62, .bool (decide (x5_29 = 233))) :: (61, .int .i64 x5_29) :: (60, .vptr [.int .i64 x5_29]) :: (59, .vec (x3_0.1).length 1 ((x3_0.1).flatMap e3)) :: (58, .bool true) :: E12)
        refine oR 4 (p' := (atN 34 (ctl1 g36p6))) (eE := E13) (H' := (mkH [])) (by kernel_rfl) ?_
        refine oS 64 (b := decide (x5_29 = 233)) (by kernel_rfl) (fun hb => ?_) (fun hb => ?_)
        ·let E14 : Env := ((68, .bool (decide (x4_0.1 = 65))) :: (67, .bool (decide (x4_0.1 = 65))) :: (66, .bool (decide (x4_0.1 = 65))) :: (65, .int .i64 x4_0.1) :: (64, .bool true) :: E13)
         refine oR 4 (p' := (atN 38 (ctl1 g36p6))) (eE := E14) (H' := (mkH [])) (by kernel_rfl) ?_
         refine oS 68 (b := decide (x4_0.1 = 65)) (by kernel_rfl) (fun hb => ?_) (fun hb => ?_)
         ·let E15 : Env := ((72, .bool (decide (x4_0.2 = 4))) :: (71, .bool (decide (x4_0.2 = 4))) :: (70, .bool (decide (x4_0.2 = 4))) :: (69, .int .i64 x4_0.2) :: (68, .bool true) :: E14)
          refine oR 4 (p' := (atN 42 (ctl1 g36p6))) (eE := E15) (H' := (mkH [])) (by kernel_rfl) ?_
          refine oS 72 (b := decide (x4_0.2 = 4)) (by kernel_rfl) (fun hb => ?_) (fun hb => ?_)
          ·refine oC (fun (x5_42 : Bool) => .bool x5_42) (atN 43 (ctl1 g36p6)) (fun x5_42 => ((73, .bool x5_42) :: (72, .bool true) :: E15)) (fi := 45) (args := [.str g36c2]) (by kernel_rfl) (by kernel_rfl) (fun _ => by kernel_rfl) (fun r h => g45_ok k g36c2 r h) (fun _ => by kernel_rfl) (fun x5_42 hx5_42 => ?_)
           refine oR 2 (p' := (atN 45 (ctl1 g36p6))) (eE := ((75, .bool x5_42) :: (74, .bool x5_42) :: (73, .bool x5_42) :: (72, .bool true) :: E15)) (H' := (mkH [])) (by kernel_rfl) ?_
           refine oS 75 (b := x5_42) (by kernel_rfl) (fun hb => ?_) (fun hb => ?_)
           ·refine oC (fun (x5_45 : Bool) => .bool x5_45) (atN 46 (ctl1 g36p6)) (fun x5_45 => ((76, .bool x5_45) :: (75, .bool true) :: (75, .bool x5_42) :: (74, .bool x5_42) :: (73, .bool x5_42) :: (72, .bool true) :: E15)) (fi := 45) (args := [.str [49, 46]]) (by kernel_rfl) (by kernel_rfl) (fun _ => by kernel_rfl) (fun r h => g45_ok k ([49, 46] : List Nat) r h) (fun _ => by kernel_rfl) (fun x5_45 hx5_45 => ?_)
            let E16 : Env := ((0, .bool (!x5_45)) :: (78, .bool (!x5_45)) :: (77, .bool (!x5_45)) :: (76, .bool x5_45) :: (75, .bool true) :: (75, .bool x5_42) :: (74, .bool x5_42) :: (73, .bool x5_42) :: (72, .bool true) :: E15)
            refine oR 5 (p' := .fin) (eE := E16) (H' := (mkH [])) (by kernel_rfl) ?_
            exact oT (r := (!x5_45)) (xs := [.bool (!x5_45)]) (v := .bool (!x5_45)) (by kernel_rfl) (by kernel_rfl) (by kernel_rfl) (.pures (by kernel_rfl)) (by kernel_rfl)
           ·let E17 : Env := ((0, .bool false) :: (78, .bool false) :: (77, .tuple []) :: (76, .tuple []) :: (75, .bool false) :: (75, .bool x5_42) :: (74, .bool x5_42) :: (73, .bool x5_42) :: (72, .bool true) :: E15)
            refine oR 6 (p' := .fin) (eE := E17) (H' := (mkH [])) (by kernel_rfl) ?_
            exact oT (r := false) (xs := [.bool false]) (v := .bool false) (by kernel_rfl) (by kernel_rfl) (by kernel_rfl) (.pures (by kernel_rfl)) (by kernel_rfl)
          ·let E18 : Env := ((0, .bool false) :: (78, .bool false) :: (77, .tuple []) :: (76, .tuple []) :: (75, .bool false) :: (74, .bool false) :: (73, .tuple []) :: (72, .bool false) :: E15)
           refine oR 9 (p' := .fin) (eE := E18) (H' := (mkH [])) (by kernel_rfl) ?_
           exact oT (r := false) (xs := [.bool false]) (v := .bool false) (by kernel_rfl) (by kernel_rfl) (by kernel_rfl) (.pures (by kernel_rfl)) (by kernel_rfl)
         ·let E19 : Env := ((0, .bool false) :: (78, .bool false) :: (77, .tuple []) :: (76, .tuple []) :: (75, .bool false) :: (74, .bool false) :: (73, .tuple []) :: (72, .bool false) :: (71, .bool false) :: (70, .tuple []) :: (69, .tuple []) :: (68, .bool false) :: E14)
          refine oR 13 (p' := .fin) (eE := E19) (H' := (mkH [])) (by kernel_rfl) ?_
          exact oT (r := false) (xs := [.bool false]) (v := .bool false) (by kernel_rfl) (by kernel_rfl) (by kernel_rfl) (.pures (by kernel_rfl)) (by kernel_rfl)
        ·let E20 : Env := ((0, .bool false) :: (78, .bool false) :: (77, .tuple []) :: (76, .tuple []) :: (75, .bool false) :: (74, .bool false) :: (73, .tuple []) :: (72, .bool false) :: (71, .bool false) :: (70, .tuple []) :: (69, .tuple []) :: (68, .bool false) :: (67, .bool false) :: (66, .tuple []) :: (65, .tuple []) :: (64, .bool false) :: E13)
         refine oR 17 (p' := .fin) (eE := E20) (H' := (mkH [])) (by kernel_rfl) ?_
         exact oT (r := false) (xs := [.bool false]) (v := .bool false) (by kernel_rfl) (by kernel_rfl) (by kernel_rfl) (.pures (by kernel_rfl)) (by kernel_rfl)
       ·let E21 : Env := ((0, .bool false) :: (78, .bool false) :: (77, .tuple []) :: (76, .tuple []) :: (75, .bool false) :: (74, .bool false) :: (73, .tuple []) :: (72, .bool false) :: (71, .bool false) :: (70, .tuple []) :: (69, .tuple []) :: (68, .bool false) :: (67, .bool false) :: (66, .tuple []) :: (65, .tuple []) :: (64, .bool false) :: (63, .bool false) :: (62, .tuple []) :: (61, .tuple []) :: (60, .tuple []) :: (59, .tuple []) :: (58, .bool false) :: E12)
        refine oR 23 (p' := .fin) (eE := E21) (H' := (mkH [])) (by kernel_rfl) ?_
        exact oT (r := false) (xs := [.bool false]) (v := .bool false) (by kernel_rfl) (by kernel_rfl) (by kernel_rfl) (.pures (by kernel_rfl)) (by kernel_rfl)
      ·let E22 : Env := ((0, .bool false) :: (78, .bool false) :: (77, .tuple []) :: (76, .tuple []) :: (75, .bool false) :: (74, .bool false) :: (73, .tuple []) :: (72, .bool false) :: (71, .bool false) :: (70, .tuple []) :: (69, .tuple []) :: (68, .bool false) :: (67, .bool false) :: (66, .tuple []) :: (65, .tuple []) :: (64, .bool false) :: (63, .bool false) :: (62, .tuple []) :: (61, .tuple []) :: (60, .tuple []) :: (59, .tuple []) :: (58, .bool false) :: (57, .bool false) :: (56, .tuple []) :: (55, .tuple []) :: (54, .tuple []) :: (53, .bool false) :: E11)
       refine oR 28 (p' := .fin) (eE := E22) (H' := (mkH [])) (by kernel_rfl) ?_
       exact oT (r := false) (xs := [.bool false]) (v := .bool false) (by kernel_rfl) (by kernel_rfl) (by kernel_rfl) (.pures (by kernel_rfl)) (by kernel_rfl)
     ·let E23 : Env := ((0, .bool false) :: (78, .bool false) :: (77, .tuple []) :: (76, .tuple []) :: (75, .bool false) :: (74, .bool false) :: (73, .tuple []) :: (72, .bool false) :: (71, .bool false) :: (70, .tuple []) :: (69, .tuple []) :: (68, .bool false) :: (67, .bool false) :: (66, .tuple []) :: (65, .tuple []) :: (64, .bool false) :: (63, .bool false) :: (62, .tuple []) :: (61, .tuple []) :: (60, .tuple []) :: (59, .tuple []) :: (58, .bool false) :: (57, .bool false) :: (56, .tuple []) :: (55, .tuple []) :: (54, .tuple []) :: (53, .bool false) :: (52, .bool false) :: (51, .tuple []) :: (50, .tuple []) :: (49, .bool false) :: E10)
      refine oR 32 (p' := .fin) (eE := E23) (H' := (mkH [])) (by kernel_rfl) ?_
      exact oT (r := false) (xs := [.bool false]) (v := .bool false) (by kernel_rfl) (by kernel_rfl) (by kernel_rfl) (.pures (by kernel_rfl)) (by kernel_rfl)
    ·let E24 : Env := ((0, .bool false) :: (78, .bool false) :: (77, .tuple []) :: (76, .tuple []) :: (75, .bool false) :: (74, .bool false) :: (73, .tuple []) :: (72, .bool false) :: (71, .bool false) :: (70, .tuple []) :: (69, .tuple []) :: (68, .bool false) :: (67, .bool false) :: (66, .tuple []) :: (65, .tuple []) :: (64, .bool false) :: (63, .bool false) :: (62, .tuple []) :: (61, .tuple []) :: (60, .tuple []) :: (59, .tuple []) :: (58, .bool false) :: (57, .bool false) :: (56, .tuple []) :: (55, .tuple []) :: (54, .tuple []) :: (53, .bool false) :: (52, .bool false) :: (51, .tuple []) :: (50, .tuple []) :: (49, .bool false) :: (48, .bool false) :: (47, .tuple []) :: (46, .tuple []) :: (45, .bool false) :: E9)
     refine oR 36 (p' := .fin) (eE := E24) (H' := (mkH [])) (by kernel_rfl) ?_
     exact oT (r := false) (xs := [.bool false]) (v := .bool false) (by kernel_rfl) (by kernel_rfl) (by kernel_rfl) (.pures (by kernel_rfl)) (by kernel_rfl)
   ·let E25 : Env := ((0, .bool false) :: (78, .bool false) :: (77, .tuple []) :: (76, .tuple []) :: (75, .bool false) :: (74, .bool false) :: (73, .tuple []) :: (72, .bool false) :: (71, .bool false) :: (70, .tuple []) :: (69, .tuple []) :: (68, .bool false) :: (67, .bool false) :: (66, .tuple []) :: (65, .tuple []) :: (64, .bool false) :: (63, .bool false) :: (62, .tuple []) :: (61, .tuple []) :: (60, .tuple []) :: (59, .tuple []) :: (58, .bool false) :: (57, .bool false) :: (56, .tuple []) :: (55, .tuple []) :: (54, .tuple []) :: (53, .bool false) :: (52, .bool false) :: (51, .tuple []) :: (50, .tuple []) :: (49, .bool false) :: (48, .bool false) :: (47, .tuple []) :: (46, .tuple []) :: (45, .bool false) :: (44, .bool false) :: (43, .tuple []) :: (42, .tuple []) :: (41, .bool false) :: E8)
    refine oR 40 (p' := .fin) (eE := E25) (H' := (mkH [])) (by kernel_rfl) ?_
    exact oT (r := false) (xs := [.bool false]) (v := .bool false) (by kernel_rfl) (by kernel_rfl) (by kernel_rfl) (.pures (by kernel_rfl)) (by kernel_rfl)
  ·let E26 : Env := ((0, .bool false) :: (78, .bool false) :: (77, .tuple []) :: (76, .tuple []) :: (75, .bool false) :: (74, .bool false) :: (73, .tuple []) :: (72, .bool false) :: (71, .bool false) :: (70, .tuple []) :: (69, .tuple []) :: (68, .bool false) :: (67, .bool false) :: (66, .tuple []) :: (65, .tuple []) :: (64, .bool false) :: (63, .bool false) :: (62, .tuple []) :: (61, .tuple []) :: (60, .tuple []) :: (59, .tuple []) :: (58, .bool false) :: (57, .bool false) :: (56, .tuple []) :: (55, .tuple []) :: (54, .tuple []) :: (53, .bool false) :: (52, .bool false) :: (51, .tuple []) :: (50, .tuple []) :: (49, .bool false) :: (48, .bool false) :: (47, .tuple []) :: (46, .tuple []) :: (45, .bool false) :: (44, .bool false) :: (43, .tuple []) :: (42, .tuple []) :: (41, .bool false) :: (40, .bool false) :: (39, .tuple []) :: (38, .tuple []) :: (37, .bool false) :: E7)
   refine oR 44 (p' := .fin) (eE := E26) (H' := (mkH [])) (by kernel_rfl) ?_
   exact oT (r := false) (xs := [.bool false]) (v := .bool false) (by kernel_rfl) (by kernel_rfl) (by kernel_rfl) (.pures (by kernel_rfl)) (by kernel_rfl)
 ·let E27 : Env := ((0, .bool false) :: (78, .bool false) :: (77, .tuple []) :: (76, .tuple []) :: (75, .bool false) :: (74, .bool false) :: (73, .tuple []) :: (72, .bool false) :: (71, .bool false) :: (70, .tuple []) :: (69, .tuple []) :: (68, .bool false) :: (67, .bool false) :: (66, .tuple []) :: (65, .tuple []) :: (64, .bool false) :: (63, .bool false) :: (62, .tuple []) :: (61, .tuple []) :: (60, .tuple []) :: (59, .tuple []) :: (58, .bool false) :: (57, .bool false) :: (56, .tuple []) :: (55, .tuple []) :: (54, .tuple []) :: (53, .bool false) :: (52, .bool false) :: (51, .tuple []) :: (50, .tuple []) :: (49, .bool false) :: (48, .bool false) :: (47, .tuple []) :: (46, .tuple []) :: (45, .bool false) :: (44, .bool false) :: (43, .tuple []) :: (42, .tuple []) :: (41, .bool false) :: (40, .bool false) :: (39, .tuple []) :: (38, .tuple []) :: (37, .bool false) :: (36, .bool false) :: (35, .tuple []) :: (34, .tuple []) :: (33, .bool false) :: E6)
  refine oR 48 (p' := .fin) (eE := E27) (H' := (mkH [])) (by kernel_rfl) ?_
  exact oT (r := false) (xs := [.bool false]) (v := .bool false) (by kernel_rfl) (by kernel_rfl) (by kernel_rfl) (.pures (by kernel_rfl)) (by kernel_rfl)
end
end Go.Proofs.Ytabhkocokojddaa.Am
set_option maxRecDepth 100000
set_option linter.unusedVariables false
set_option linter.unusedSimpArgs false
namespace Go.Proofs.Ytabhkocokojddaa.Am
open Go
theorem told4 (k : Nat) : g36 (k + 60) = some true := by kernel_rfl
end Go.Proofs.Ytabhkocokojddaa.Am
set_option maxRecDepth 100000
set_option linter.unusedVariables false
set_option linter.unusedSimpArgs false
namespace Go.Proofs.Ytabhkocokojddaa.Am
open Go
theorem sub1 {T : List Nat} {i x : Nat} {r : List Nat} (h : T.drop i = x :: r) : subL T (some (i : Int)) (some ((i + 1 : Nat) : Int)) = some [x] := by
 have dl := congrArg List.length h
 rw [List.length_drop, List.length_cons] at dl
 rw [subMid (s := T) (i := i) (j := i + 1) rfl rfl (by omega) (by omega), List.drop_take, Nat.add_sub_cancel_left, h]; rfl
end Go.Proofs.Ytabhkocokojddaa.Am
set_option maxRecDepth 100000
set_option linter.unusedVariables false
namespace Go.Proofs.Ytabhkocokojddaa.Am
noncomputable section
open Go
def X47 : Fx Bool := ⟨Try.prog, cx, Try.f47, fun r => .bool r, 0, fun _ => H0, cxTi, cxOrd⟩
def g47c0 : List Nat := [48, 49, 50, 51, 52, 53, 54, 55, 56, 57]
def g47p0 : Pt := nav [0] (bodyAt Try.f47)
def g47p1 : Pt := nav [0, 0, 0] g47p0
def g47p2 : Pt := nav [0, 0, 0, 0] g47p1
def g47p3 : Pt := nav [0, 0, 0, 0] g47p2
def g47p4 : Pt := nav [0, 0, 0] g47p3
def g47p5 : Pt := nav [0, 0] g47p4
def g47p6 : Pt := nav [1, 0, 0, 0, 0] g47p5
def g47p7 : Pt := nav [2, 0, 0] g47p5
def g47p8 : Pt := nav [0, 0] g47p6
def g47p9 : Pt := nav [0, 0, 0, 0] g47p7
def g47p10 : Pt := nav [1] g47p8
def g47p11 : Pt := nav [2, 0] g47p8
def g47p12 : Pt := nav [0, 0] g47p9
def g47p13 : Pt := nav [1] g47p12
def g47p14 : Pt := nav [2, 0, 0] g47p12
def g47p15 : Pt := nav [0, 0, 0] g47p14
def g47p16 : Pt := nav [0, 0, 0] g47p15
def g47p17 : Pt := nav [0, 0, 0, 0] g47p16
def g47p18 : Pt := nav [0, 0, 0, 0] g47p17
def g47p19 : Pt := nav [0, 0, 0] g47p18
def g47p20 : Pt := nav [0, 0] g47p19
def g47p21 : Pt := nav [1, 0, 0, 0, 0] g47p20
def g47p22 : Pt := nav [2, 0, 0, 0] g47p20
def g47p23 : Pt := nav [0, 0, 0, 0, 0] g47p21
def g47p24 : Pt := nav [0, 0] g47p22
def g47p25 : Pt := nav [0, 0] g47p23
def g47p27 : Pt := nav [2, 0, 0, 0] g47p24
def g47p28 : Pt := nav [1] g47p25
def g47p29 : Pt := nav [2, 0] g47p25
def g47p31 : Pt := nav [0, 0] g47p27
def g47p32 : Pt := nav [0, 0] g47p28
def g47p33 : Pt := nav [0, 0] g47p29
def g47p34 : Pt := nav [1, 0] g47p31
def g47p36 : Pt := nav [0, 0] g47p32
def g47p39 : Pt := nav [0, 0, 0] g47p34
def g47_l11 (k : Nat)  (a0 : (List Nat)) (a1 : Int) (x4_4 : (Int × Int)) (x5_4 : (Int × Int)) (n : Nat) : (List Nat) → Int → Int → Option Bool :=
 Nat.rec (motive := fun _ => (List Nat) → Int → Int → Option Bool) (fun _ _ _ => none) (fun _ ih => fun (y11_0 : (List Nat)) (y11_1 : Int) (y11_2 : Int) => if (decide (y11_2 < (y11_0.length : Int))) then ((nthS y11_0 y11_2).bind fun x6_2 => jn (fun (z12 : Int × Int × Int) => ih y11_0 (fW .u64 (fW .u64 (z12.2.1 * fW .u64 a1) + fW .u64 z12.1)) (fW .i64 (z12.2.2 + 1))) (fun j12 => if (decide (97 ≤ fW .i64 x6_2)) then (j12 (fW .i64 (fW .i64 (fW .i64 x6_2 - 97) + 10), y11_1, y11_2)) else (if (decide (65 ≤ fW .i64 x6_2)) then (j12 (fW .i64 (fW .i64 (fW .i64 x6_2 - 65) + 10), y11_1, y11_2)) else (j12 (fW .i64 (fW .i64 x6_2 - 48), y11_1, y11_2))))) else (jn (fun (z13 : Bool × Int) => if z13.1 then (some false) else (if (decide (a1 = 10)) then ((g37 k a0).bind fun x7_1 => if (decide (x7_1.2 = 0)) then (some (decide (x7_1.1 = z13.2))) else (some false)) else (some true))) (fun j13 => if (!decide (x4_4.2 = 0)) then (j13 (true, y11_1)) else (if (!decide (x5_4.2 = 0)) then (j13 (true, y11_1)) else (if (!decide (x4_4.1 = y11_1)) then (j13 (true, y11_1)) else (j13 (!decide (x5_4.1 = y11_1), y11_1))))))) n
theorem g47_l11_s (k : Nat)  (a0 : (List Nat)) (a1 : Int) (x4_4 : (Int × Int)) (x5_4 : (Int × Int)) (n : Nat) (y11_0 : (List Nat)) (y11_1 : Int) (y11_2 : Int) : g47_l11 k a0 a1 x4_4 x5_4 (n + 1) y11_0 y11_1 y11_2 = (if (decide (y11_2 < (y11_0.length : Int))) then ((nthS y11_0 y11_2).bind fun x6_2 => jn (fun (z12 : Int × Int × Int) => (g47_l11 k a0 a1 x4_4 x5_4 n) y11_0 (fW .u64 (fW .u64 (z12.2.1 * fW .u64 a1) + fW .u64 z12.1)) (fW .i64 (z12.2.2 + 1))) (fun j12 => if (decide (97 ≤ fW .i64 x6_2)) then (j12 (fW .i64 (fW .i64 (fW .i64 x6_2 - 97) + 10), y11_1, y11_2)) else (if (decide (65 ≤ fW .i64 x6_2)) then (j12 (fW .i64 (fW .i64 (fW .i64 x6_2 - 65) + 10), y11_1, y11_2)) else (j12 (fW .i64 (fW .i64 x6_2 - 48), y11_1, y11_2))))) else (jn (fun (z13 : Bool × Int) => if z13.1 then (some false) else (if (decide (a1 = 10)) then ((g37 k a0).bind fun x7_1 => if (decide (x7_1.2 = 0)) then (some (decide (x7_1.1 = z13.2))) else (some false)) else (some true))) (fun j13 => if (!decide (x4_4.2 = 0)) then (j13 (true, y11_1)) else (if (!decide (x5_4.2 = 0)) then (j13 (true, y11_1)) else (if (!decide (x4_4.1 = y11_1)) then (j13 (true, y11_1)) else (j13 (!decide (x5_4.1 = y11_1), y11_1))))))) := rfl
theorem g47_l11_ok (k : Nat)  (a0 : (List Nat)) (a1 : Int) (x4_4 : (Int × Int)) (x5_4 : (Int × Int))  : ∀ (n : Nat) (y11_0 : (List Nat)) (y11_1 : Int) (y11_2 : Int), Ok X47 g47p18 [(0, .str a0), (1, .int .i64 a1), (5, .str y11_0), (8, .int .u64 x4_4.1), (9, .int .i64 x4_4.2), (10, .int .u64 x5_4.1), (11, .int .i64 x5_4.2), (12, .int .u64 y11_1), (13, .int .i64 y11_2)] (mkH []) (g47_l11 k a0 a1 x4_4 x5_4 n y11_0 y11_1 y11_2)
 | 0, _, _, _ => ok_none
 | n + 1, y11_0, y11_1, y11_2 => by
  have ih := g47_l11_ok k a0 a1 x4_4 x5_4 n
  rw [g47_l11_s]
  refine ok_ent (p' := nav [0] g47p18) (by kernel_rfl) ?_
  let E14 : Env := [(69, .bool (decide (y11_2 < (y11_0.length : Int)))), (68, .int .i64 (y11_0.length : Int)), (67, .str y11_0), (66, .int .i64 y11_2), (0, .str a0), (1, .int .i64 a1), (5, .str y11_0), (8, .int .u64 x4_4.1), (9, .int .i64 x4_4.2), (10, .int .u64 x5_4.1), (11, .int .i64 x5_4.2), (12, .int .u64 y11_1), (13, .int .i64 y11_2)]
  refine oR 8 (p' := g47p20) (eE := E14) (H' := (mkH [])) (by kernel_rfl) ?_
  refine oS 69 (b := decide (y11_2 < (y11_0.length : Int))) (by kernel_rfl) (fun hb => ?_) (fun hb => ?_)
  ·refine oR 8 (p' := (atN 2 (ctl1 g47p21))) (eE := ((73, .int .i64 y11_2) :: (72, .str y11_0) :: (69, .bool true) :: E14)) (H' := (mkH [])) (by kernel_rfl) ?_
   refine oH (fun (x6_2 : Int) => (.int .u8 x6_2, (mkH []))) (atN 3 (ctl1 g47p21)) (fun x6_2 => ((74, .int .u8 x6_2) :: (73, .int .i64 y11_2) :: (72, .str y11_0) :: (69, .bool true) :: E14)) (idxH (by kernel_rfl)) (fun _ => by kernel_rfl) (fun x6_2 hx6_2 => ?_)
   let E15 : Env := ((14, .int .i64 (fW .i64 x6_2)) :: (75, .int .i64 (fW .i64 x6_2)) :: (74, .int .u8 x6_2) :: (73, .int .i64 y11_2) :: (72, .str y11_0) :: (69, .bool true) :: E14)
   refine oR 6 (p' := g47p23) (eE := E15) (H' := (mkH [])) (by kernel_rfl) ?_
   refine oK [0, 1, 5, 8, 9, 10, 11, 12, 13, 14] (eE := [(0, .str a0), (1, .int .i64 a1), (5, .str y11_0), (8, .int .u64 x4_4.1), (9, .int .i64 x4_4.2), (10, .int .u64 x5_4.1), (11, .int .i64 x5_4.2), (12, .int .u64 y11_1), (13, .int .i64 y11_2), (14, .int .i64 (fW .i64 x6_2))]) (by kernel_rfl) ?_
   let E16 : Env := [(78, .bool (decide (97 ≤ fW .i64 x6_2))), (80, .bool (decide (97 ≤ fW .i64 x6_2))), (79, .int .i64 (fW .i64 x6_2)), (0, .str a0), (1, .int .i64 a1), (5, .str y11_0), (8, .int .u64 x4_4.1), (9, .int .i64 x4_4.2), (10, .int .u64 x5_4.1), (11, .int .i64 x5_4.2), (12, .int .u64 y11_1), (13, .int .i64 y11_2), (14, .int .i64 (fW .i64 x6_2))]
   refine oR 5 (p' := g47p25) (eE := E16) (H' := (mkH [])) (by kernel_rfl) ?_
   refine oJ (f := fun (z12 : Int × Int × Int) => (g47_l11 k a0 a1 x4_4 x5_4 n) y11_0 (fW .u64 (fW .u64 (z12.2.1 * fW .u64 a1) + fW .u64 z12.1)) (fW .i64 (z12.2.2 + 1))) g47p32 (fun (z12 : Int × Int × Int) => [(0, .str a0), (1, .int .i64 a1), (5, .str y11_0), (8, .int .u64 x4_4.1), (9, .int .i64 x4_4.2), (10, .int .u64 x5_4.1), (11, .int .i64 x5_4.2), (12, .int .u64 z12.2.1), (13, .int .i64 z12.2.2), (14, .int .i64 z12.1)]) (fun (z12 : Int × Int × Int) => (mkH [])) (fun z12 => ?_) (fun j12 hj12 => ?_)
   ·let E17 : Env := [(12, .int .u64 (fW .u64 (fW .u64 (z12.2.1 * fW .u64 a1) + fW .u64 z12.1))), (96, .int .u64 (fW .u64 (fW .u64 (z12.2.1 * fW .u64 a1) + fW .u64 z12.1))), (95, .int .u64 (fW .u64 z12.1)), (94, .int .i64 z12.1), (93, .int .u64 (fW .u64 (z12.2.1 * fW .u64 a1))), (92, .int .u64 (fW .u64 a1)), (91, .int .i64 a1), (90, .int .u64 z12.2.1), (0, .str a0), (1, .int .i64 a1), (5, .str y11_0), (8, .int .u64 x4_4.1), (9, .int .i64 x4_4.2), (10, .int .u64 x5_4.1), (11, .int .i64 x5_4.2), (12, .int .u64 z12.2.1), (13, .int .i64 z12.2.2), (14, .int .i64 z12.1)]
    refine oR 10 (p' := g47p36) (eE := E17) (H' := (mkH [])) (by kernel_rfl) ?_
    refine oK [0, 1, 5, 8, 9, 10, 11, 12, 13] (eE := [(0, .str a0), (1, .int .i64 a1), (5, .str y11_0), (8, .int .u64 x4_4.1), (9, .int .i64 x4_4.2), (10, .int .u64 x5_4.1), (11, .int .i64 x5_4.2), (12, .int .u64 (fW .u64 (fW .u64 (z12.2.1 * fW .u64 a1) + fW .u64 z12.1))), (13, .int .i64 z12.2.2)]) (by kernel_rfl) ?_
    let E18 : Env := [(13, .int .i64 (fW .i64 (z12.2.2 + 1))), (71, .int .i64 (fW .i64 (z12.2.2 + 1))), (70, .int .i64 z12.2.2), (0, .str a0), (1, .int .i64 a1), (5, .str y11_0), (8, .int .u64 x4_4.1), (9, .int .i64 x4_4.2), (10, .int .u64 x5_4.1), (11, .int .i64 x5_4.2), (12, .int .u64 (fW .u64 (fW .u64 (z12.2.1 * fW .u64 a1) + fW .u64 z12.1))), (13, .int .i64 z12.2.2)]
    refine oR 5 (p' := g47p18) (eE := E18) (H' := (mkH [])) (by kernel_rfl) ?_
    refine oK [0, 1, 5, 8, 9, 10, 11, 12, 13] (eE := [(0, .str a0), (1, .int .i64 a1), (5, .str y11_0), (8, .int .u64 x4_4.1), (9, .int .i64 x4_4.2), (10, .int .u64 x5_4.1), (11, .int .i64 x5_4.2), (12, .int .u64 (fW .u64 (fW .u64 (z12.2.1 * fW .u64 a1) + fW .u64 z12.1))), (13, .int .i64 (fW .i64 (z12.2.2 + 1)))]) (by kernel_rfl) ?_
    exact ih y11_0 (fW .u64 (fW .u64 (z12.2.1 * fW .u64 a1) + fW .u64 z12.1)) (fW .i64 (z12.2.2 + 1))
   ·refine oS 78 (b := decide (97 ≤ fW .i64 x6_2)) (by kernel_rfl) (fun hb => ?_) (fun hb => ?_)
    ·let E19 : Env := ((14, .int .i64 (fW .i64 (fW .i64 (fW .i64 x6_2 - 97) + 10))) :: (83, .int .i64 (fW .i64 (fW .i64 (fW .i64 x6_2 - 97) + 10))) :: (82, .int .i64 (fW .i64 (fW .i64 x6_2 - 97))) :: (81, .int .i64 (fW .i64 x6_2)) :: (78, .bool true) :: E16)
     refine oR 7 (p' := g47p32) (eE := E19) (H' := (mkH [])) (by kernel_rfl) ?_
     refine oK [0, 1, 5, 8, 9, 10, 11, 12, 13, 14] (eE := [(0, .str a0), (1, .int .i64 a1), (5, .str y11_0), (8, .int .u64 x4_4.1), (9, .int .i64 x4_4.2), (10, .int .u64 x5_4.1), (11, .int .i64 x5_4.2), (12, .int .u64 y11_1), (13, .int .i64 y11_2), (14, .int .i64 (fW .i64 (fW .i64 (fW .i64 x6_2 - 97) + 10)))]) (by kernel_rfl) ?_
     exact hj12 (fW .i64 (fW .i64 (fW .i64 x6_2 - 97) + 10), y11_1, y11_2)
    ·refine oR 7 (p' := g47p33) (eE := ((84, .bool (decide (65 ≤ fW .i64 x6_2))) :: (86, .bool (decide (65 ≤ fW .i64 x6_2))) :: (85, .int .i64 (fW .i64 x6_2)) :: (78, .bool false) :: E16)) (H' := (mkH [])) (by kernel_rfl) ?_
     refine oS 84 (b := decide (65 ≤ fW .i64 x6_2)) (by kernel_rfl) (fun hb => ?_) (fun hb => ?_)
     ·let E20 : Env := ((14, .int .i64 (fW .i64 (fW .i64 (fW .i64 x6_2 - 65) + 10))) :: (89, .int .i64 (fW .i64 (fW .i64 (fW .i64 x6_2 - 65) + 10))) :: (88, .int .i64 (fW .i64 (fW .i64 x6_2 - 65))) :: (87, .int .i64 (fW .i64 x6_2)) :: (84, .bool true) :: (84, .bool (decide (65 ≤ fW .i64 x6_2))) :: (86, .bool (decide (65 ≤ fW .i64 x6_2))) :: (85, .int .i64 (fW .i64 x6_2)) :: (78, .bool false) :: E16)
      refine oR 7 (p' := g47p32) (eE := E20) (H' := (mkH [])) (by kernel_rfl) ?_
      refine oK [0, 1, 5, 8, 9, 10, 11, 12, 13, 14] (eE := [(0, .str a0), (1, .int .i64 a1), (5, .str y11_0), (8, .int .u64 x4_4.1), (9, .int .i64 x4_4.2), (10, .int .u64 x5_4.1), (11, .int .i64 x5_4.2), (12, .int .u64 y11_1), (13, .int .i64 y11_2), (14, .int .i64 (fW .i64 (fW .i64 (fW .i64 x6_2 - 65) + 10)))]) (by kernel_rfl) ?_
      exact hj12 (fW .i64 (fW .i64 (fW .i64 x6_2 - 65) + 10), y11_1, y11_2)
     ·let E21 : Env := ((14, .int .i64 (fW .i64 (fW .i64 x6_2 - 48))) :: (77, .int .i64 (fW .i64 (fW .i64 x6_2 - 48))) :: (76, .int .i64 (fW .i64 x6_2)) :: (84, .bool false) :: (84, .bool (decide (65 ≤ fW .i64 x6_2))) :: (86, .bool (decide (65 ≤ fW .i64 x6_2))) :: (85, .int .i64 (fW .i64 x6_2)) :: (78, .bool false) :: E16)
      refine oR 6 (p' := g47p32) (eE := E21) (H' := (mkH [])) (by kernel_rfl) ?_
      refine oK [0, 1, 5, 8, 9, 10, 11, 12, 13, 14] (eE := [(0, .str a0), (1, .int .i64 a1), (5, .str y11_0), (8, .int .u64 x4_4.1), (9, .int .i64 x4_4.2), (10, .int .u64 x5_4.1), (11, .int .i64 x5_4.2), (12, .int .u64 y11_1), (13, .int .i64 y11_2), (14, .int .i64 (fW .i64 (fW .i64 x6_2 - 48)))]) (by kernel_rfl) ?_
      exact hj12 (fW .i64 (fW .i64 x6_2 - 48), y11_1, y11_2)
  ·refine oR 8 (p' := (atN 3 (ctl1 g47p22))) (eE := ((99, .bool (!decide (x4_4.2 = 0))) :: (98, .bool (!decide (x4_4.2 = 0))) :: (97, .int .i64 x4_4.2) :: (69, .bool false) :: E14)) (H' := (mkH [])) (by kernel_rfl) ?_
   refine oJ (f := fun (z13 : Bool × Int) => if z13.1 then (some false) else (if (decide (a1 = 10)) then ((g37 k a0).bind fun x7_1 => if (decide (x7_1.2 = 0)) then (some (decide (x7_1.1 = z13.2))) else (some false)) else (some true))) g47p24 (fun (z13 : Bool × Int) => [(0, .str a0), (1, .int .i64 a1), (12, .int .u64 z13.2), (112, .bool z13.1)]) (fun (z13 : Bool × Int) => (mkH [])) (fun z13 => ?_) (fun j13 hj13 => ?_)
   ·refine oS 112 (b := z13.1) (by kernel_rfl) (fun hb => ?_) (fun hb => ?_)
    ·let E22 : Env := [(4, .bool false), (112, .bool true), (0, .str a0), (1, .int .i64 a1), (12, .int .u64 z13.2), (112, .bool z13.1)]
     refine oR 6 (p' := .fin) (eE := E22) (H' := (mkH [])) (by kernel_rfl) ?_
     exact oT (r := false) (xs := [.bool false]) (v := .bool false) (by kernel_rfl) (by kernel_rfl) (by kernel_rfl) (.pures (by kernel_rfl)) (by kernel_rfl)
    ·let E23 : Env := [(114, .bool (decide (a1 = 10))), (113, .int .i64 a1), (112, .bool false), (0, .str a0), (1, .int .i64 a1), (12, .int .u64 z13.2), (112, .bool z13.1)]
     refine oR 8 (p' := g47p31) (eE := E23) (H' := (mkH [])) (by kernel_rfl) ?_
     refine oS 114 (b := decide (a1 = 10)) (by kernel_rfl) (fun hb => ?_) (fun hb => ?_)
     ·refine oR 4 (p' := (atN 1 (ctl1 g47p34))) (eE := ((116, .str a0) :: (114, .bool true) :: E23)) (H' := (mkH [])) (by kernel_rfl) ?_
      refine oC (fun (x7_1 : (Int × Int)) => .tuple [.int .u64 x7_1.1, .int .i64 x7_1.2]) (atN 2 (ctl1 g47p34)) (fun x7_1 => ((117, .tuple [.int .u64 x7_1.1, .int .i64 x7_1.2]) :: (116, .str a0) :: (114, .bool true) :: E23)) (fi := 37) (args := [.str a0]) (by kernel_rfl) (by kernel_rfl) (fun _ => by kernel_rfl) (fun r h => g37_ok k a0 r h) (fun _ => by kernel_rfl) (fun x7_1 hx7_1 => ?_)
      let E24 : Env := ((16, .int .i64 x7_1.2) :: (15, .int .u64 x7_1.1) :: (119, .int .i64 x7_1.2) :: (118, .int .u64 x7_1.1) :: (115, .tuple [.int .u64 x7_1.1, .int .i64 x7_1.2]) :: (117, .tuple [.int .u64 x7_1.1, .int .i64 x7_1.2]) :: (116, .str a0) :: (114, .bool true) :: E23)
      refine oR 7 (p' := g47p39) (eE := E24) (H' := (mkH [])) (by kernel_rfl) ?_
      refine oK [12, 15, 16] (eE := [(12, .int .u64 z13.2), (15, .int .u64 x7_1.1), (16, .int .i64 x7_1.2)]) (by kernel_rfl) ?_
      let E25 : Env := [(122, .bool (decide (x7_1.2 = 0))), (121, .bool (decide (x7_1.2 = 0))), (120, .int .i64 x7_1.2), (12, .int .u64 z13.2), (15, .int .u64 x7_1.1), (16, .int .i64 x7_1.2)]
      refine oR 4 (p' := (atN 3 (ctl1 g47p39))) (eE := E25) (H' := (mkH [])) (by kernel_rfl) ?_
      refine oS 122 (b := decide (x7_1.2 = 0)) (by kernel_rfl) (fun hb => ?_) (fun hb => ?_)
      ·let E26 : Env := ((4, .bool (decide (x7_1.1 = z13.2))) :: (126, .bool (decide (x7_1.1 = z13.2))) :: (125, .bool (decide (x7_1.1 = z13.2))) :: (124, .int .u64 z13.2) :: (123, .int .u64 x7_1.1) :: (122, .bool true) :: E25)
       refine oR 7 (p' := .fin) (eE := E26) (H' := (mkH [])) (by kernel_rfl) ?_
       exact oT (r := (decide (x7_1.1 = z13.2))) (xs := [.bool (decide (x7_1.1 = z13.2))]) (v := .bool (decide (x7_1.1 = z13.2))) (by kernel_rfl) (by kernel_rfl) (by kernel_rfl) (.pures (by kernel_rfl)) (by kernel_rfl)
      ·let E27 : Env := ((4, .bool false) :: (126, .bool false) :: (125, .tuple []) :: (124, .tuple []) :: (123, .tuple []) :: (122, .bool false) :: E25)
       refine oR 7 (p' := .fin) (eE := E27) (H' := (mkH [])) (by kernel_rfl) ?_
       exact oT (r := false) (xs := [.bool false]) (v := .bool false) (by kernel_rfl) (by kernel_rfl) (by kernel_rfl) (.pures (by kernel_rfl)) (by kernel_rfl)
     ·refine oR 7 (p' := .fin) (eE := ((4, .bool true) :: (114, .bool false) :: E23)) (H' := (mkH [])) (by kernel_rfl) ?_
      exact oT (r := true) (xs := [.bool true]) (v := .bool true) (by kernel_rfl) (by kernel_rfl) (by kernel_rfl) (.pures (by kernel_rfl)) (by kernel_rfl)
   ·refine oS 99 (b := !decide (x4_4.2 = 0)) (by kernel_rfl) (fun hb => ?_) (fun hb => ?_)
    ·let E28 : Env := ((112, .bool true) :: (111, .tuple []) :: (110, .tuple []) :: (109, .tuple []) :: (108, .bool true) :: (107, .bool true) :: (106, .tuple []) :: (105, .tuple []) :: (104, .tuple []) :: (103, .bool true) :: (102, .bool true) :: (101, .tuple []) :: (100, .tuple []) :: (99, .bool true) :: (99, .bool (!decide (x4_4.2 = 0))) :: (98, .bool (!decide (x4_4.2 = 0))) :: (97, .int .i64 x4_4.2) :: (69, .bool false) :: E14)
     refine oR 14 (p' := g47p24) (eE := E28) (H' := (mkH [])) (by kernel_rfl) ?_
     refine oK [0, 1, 12, 112] (eE := [(0, .str a0), (1, .int .i64 a1), (12, .int .u64 y11_1), (112, .bool true)]) (by kernel_rfl) ?_
     exact hj13 (true, y11_1)
    ·let E29 : Env := ((103, .bool (!decide (x5_4.2 = 0))) :: (102, .bool (!decide (x5_4.2 = 0))) :: (101, .bool (!decide (x5_4.2 = 0))) :: (100, .int .i64 x5_4.2) :: (99, .bool false) :: (99, .bool (!decide (x4_4.2 = 0))) :: (98, .bool (!decide (x4_4.2 = 0))) :: (97, .int .i64 x4_4.2) :: (69, .bool false) :: E14)
     refine oR 4 (p' := (atN 7 (ctl1 g47p22))) (eE := E29) (H' := (mkH [])) (by kernel_rfl) ?_
     refine oS 103 (b := !decide (x5_4.2 = 0)) (by kernel_rfl) (fun hb => ?_) (fun hb => ?_)
     ·let E30 : Env := ((112, .bool true) :: (111, .tuple []) :: (110, .tuple []) :: (109, .tuple []) :: (108, .bool true) :: (107, .bool true) :: (106, .tuple []) :: (105, .tuple []) :: (104, .tuple []) :: (103, .bool true) :: E29)
      refine oR 10 (p' := g47p24) (eE := E30) (H' := (mkH [])) (by kernel_rfl) ?_
      refine oK [0, 1, 12, 112] (eE := [(0, .str a0), (1, .int .i64 a1), (12, .int .u64 y11_1), (112, .bool true)]) (by kernel_rfl) ?_
      exact hj13 (true, y11_1)
     ·let E31 : Env := ((108, .bool (!decide (x4_4.1 = y11_1))) :: (107, .bool (!decide (x4_4.1 = y11_1))) :: (106, .bool (!decide (x4_4.1 = y11_1))) :: (105, .int .u64 y11_1) :: (104, .int .u64 x4_4.1) :: (103, .bool false) :: E29)
      refine oR 5 (p' := (atN 12 (ctl1 g47p22))) (eE := E31) (H' := (mkH [])) (by kernel_rfl) ?_
      refine oS 108 (b := !decide (x4_4.1 = y11_1)) (by kernel_rfl) (fun hb => ?_) (fun hb => ?_)
      ·let E32 : Env := ((112, .bool true) :: (111, .tuple []) :: (110, .tuple []) :: (109, .tuple []) :: (108, .bool true) :: E31)
       refine oR 5 (p' := g47p24) (eE := E32) (H' := (mkH [])) (by kernel_rfl) ?_
       refine oK [0, 1, 12, 112] (eE := [(0, .str a0), (1, .int .i64 a1), (12, .int .u64 y11_1), (112, .bool true)]) (by kernel_rfl) ?_
       exact hj13 (true, y11_1)
      ·let E33 : Env := ((112, .bool (!decide (x5_4.1 = y11_1))) :: (111, .bool (!decide (x5_4.1 = y11_1))) :: (110, .int .u64 y11_1) :: (109, .int .u64 x5_4.1) :: (108, .bool false) :: E31)
       refine oR 5 (p' := g47p24) (eE := E33) (H' := (mkH [])) (by kernel_rfl) ?_
       refine oK [0, 1, 12, 112] (eE := [(0, .str a0), (1, .int .i64 a1), (12, .int .u64 y11_1), (112, .bool (!decide (x5_4.1 = y11_1)))]) (by kernel_rfl) ?_
       exact hj13 (!decide (x5_4.1 = y11_1), y11_1)
def g47_l8 (k : Nat)  (a0 : (List Nat)) (a1 : Int) (n : Nat) : (List Nat) → Int → Option Bool :=
 Nat.rec (motive := fun _ => (List Nat) → Int → Option Bool) (fun _ _ => none) (fun _ ih => fun (y8_0 : (List Nat)) (y8_1 : Int) => if (decide (y8_1 < (a0.length : Int))) then ((nthS a0 y8_1).bind fun x0_2 => jn (fun (z9 : (List Nat) × Int) => ih z9.1 (fW .i64 (z9.2 + 1))) (fun j9 => if (!decide (x0_2 = 95)) then ((subL a0 (some y8_1) (some (fW .i64 (y8_1 + 1)))).bind fun x1_5 => (catS y8_0 x1_5).bind fun x1_6 => j9 (x1_6, y8_1)) else (j9 (y8_0, y8_1)))) else ((subL g47c0 (some (a1.tmod 10)) (some (fW .i64 (a1.tmod 10 + 1)))).bind fun x2_5 => jn (fun (z10 : (List Nat) × (List Nat)) => (catS z10.1 ([35] : List Nat)).bind fun x4_1 => (catS x4_1 a0).bind fun x4_3 => (g37 k x4_3).bind fun x4_4 => (catS z10.1 ([35] : List Nat)).bind fun x5_1 => (catS x5_1 z10.2).bind fun x5_3 => (g37 k x5_3).bind fun x5_4 => g47_l11 k a0 a1 x4_4 x5_4 k z10.2 0 0) (fun j10 => if (decide (10 ≤ a1)) then ((subL g47c0 (some (fW .i64 (a1.tdiv 10))) (some (fW .i64 (fW .i64 (a1.tdiv 10) + 1)))).bind fun x3_5 => (catS x3_5 x2_5).bind fun x3_7 => j10 (x3_7, y8_0)) else (j10 (x2_5, y8_0))))) n
theorem g47_l8_s (k : Nat)  (a0 : (List Nat)) (a1 : Int) (n : Nat) (y8_0 : (List Nat)) (y8_1 : Int) : g47_l8 k a0 a1 (n + 1) y8_0 y8_1 = (if (decide (y8_1 < (a0.length : Int))) then ((nthS a0 y8_1).bind fun x0_2 => jn (fun (z9 : (List Nat) × Int) => (g47_l8 k a0 a1 n) z9.1 (fW .i64 (z9.2 + 1))) (fun j9 => if (!decide (x0_2 = 95)) then ((subL a0 (some y8_1) (some (fW .i64 (y8_1 + 1)))).bind fun x1_5 => (catS y8_0 x1_5).bind fun x1_6 => j9 (x1_6, y8_1)) else (j9 (y8_0, y8_1)))) else ((subL g47c0 (some (a1.tmod 10)) (some (fW .i64 (a1.tmod 10 + 1)))).bind fun x2_5 => jn (fun (z10 : (List Nat) × (List Nat)) => (catS z10.1 ([35] : List Nat)).bind fun x4_1 => (catS x4_1 a0).bind fun x4_3 => (g37 k x4_3).bind fun x4_4 => (catS z10.1 ([35] : List Nat)).bind fun x5_1 => (catS x5_1 z10.2).bind fun x5_3 => (g37 k x5_3).bind fun x5_4 => g47_l11 k a0 a1 x4_4 x5_4 k z10.2 0 0) (fun j10 => if (decide (10 ≤ a1)) then ((subL g47c0 (some (fW .i64 (a1.tdiv 10))) (some (fW .i64 (fW .i64 (a1.tdiv 10) + 1)))).bind fun x3_5 => (catS x3_5 x2_5).bind fun x3_7 => j10 (x3_7, y8_0)) else (j10 (x2_5, y8_0))))) := rfl
theorem g47_l8_ok (k : Nat)  (a0 : (List Nat)) (a1 : Int)  : ∀ (n : Nat) (y8_0 : (List Nat)) (y8_1 : Int), Ok X47 g47p3 [(0, .str a0), (1, .int .i64 a1), (5, .str y8_0), (6, .int .i64 y8_1)] (mkH []) (g47_l8 k a0 a1 n y8_0 y8_1)
 | 0, _, _ => ok_none
 | n + 1, y8_0, y8_1 => by
  have ih := g47_l8_ok k a0 a1 n
  rw [g47_l8_s]
  refine ok_ent (p' := nav [0] g47p3) (by kernel_rfl) ?_
  let E2 : Env := [(20, .bool (decide (y8_1 < (a0.length : Int)))), (19, .int .i64 (a0.length : Int)), (18, .str a0), (17, .int .i64 y8_1), (0, .str a0), (1, .int .i64 a1), (5, .str y8_0), (6, .int .i64 y8_1)]
  refine oR 8 (p' := g47p5) (eE := E2) (H' := (mkH [])) (by kernel_rfl) ?_
  refine oS 20 (b := decide (y8_1 < (a0.length : Int))) (by kernel_rfl) (fun hb => ?_) (fun hb => ?_)
  ·refine oR 8 (p' := (atN 2 (ctl1 g47p6))) (eE := ((24, .int .i64 y8_1) :: (23, .str a0) :: (20, .bool true) :: E2)) (H' := (mkH [])) (by kernel_rfl) ?_
   refine oH (fun (x0_2 : Int) => (.int .u8 x0_2, (mkH []))) (atN 3 (ctl1 g47p6)) (fun x0_2 => ((25, .int .u8 x0_2) :: (24, .int .i64 y8_1) :: (23, .str a0) :: (20, .bool true) :: E2)) (idxH (by kernel_rfl)) (fun _ => by kernel_rfl) (fun x0_2 hx0_2 => ?_)
   let E3 : Env := ((26, .bool (!decide (x0_2 = 95))) :: (25, .int .u8 x0_2) :: (24, .int .i64 y8_1) :: (23, .str a0) :: (20, .bool true) :: E2)
   refine oR 2 (p' := g47p8) (eE := E3) (H' := (mkH [])) (by kernel_rfl) ?_
   refine oK [0, 1, 5, 6, 26] (eE := [(0, .str a0), (1, .int .i64 a1), (5, .str y8_0), (6, .int .i64 y8_1), (26, .bool (!decide (x0_2 = 95)))]) (by kernel_rfl) ?_
   refine oJ (f := fun (z9 : (List Nat) × Int) => (g47_l8 k a0 a1 n) z9.1 (fW .i64 (z9.2 + 1))) g47p11 (fun (z9 : (List Nat) × Int) => [(0, .str a0), (1, .int .i64 a1), (5, .str z9.1), (6, .int .i64 z9.2)]) (fun (z9 : (List Nat) × Int) => (mkH [])) (fun z9 => ?_) (fun j9 hj9 => ?_)
   ·let E4 : Env := [(6, .int .i64 (fW .i64 (z9.2 + 1))), (22, .int .i64 (fW .i64 (z9.2 + 1))), (21, .int .i64 z9.2), (0, .str a0), (1, .int .i64 a1), (5, .str z9.1), (6, .int .i64 z9.2)]
    refine oR 5 (p' := g47p3) (eE := E4) (H' := (mkH [])) (by kernel_rfl) ?_
    refine oK [0, 1, 5, 6] (eE := [(0, .str a0), (1, .int .i64 a1), (5, .str z9.1), (6, .int .i64 (fW .i64 (z9.2 + 1)))]) (by kernel_rfl) ?_
    exact ih z9.1 (fW .i64 (z9.2 + 1))
   ·refine oS 26 (b := !decide (x0_2 = 95)) (by kernel_rfl) (fun hb => ?_) (fun hb => ?_)
    ·let E5 : Env := [(31, .int .i64 (fW .i64 (y8_1 + 1))), (30, .int .i64 y8_1), (29, .int .i64 y8_1), (28, .str a0), (27, .str y8_0), (26, .bool true), (0, .str a0), (1, .int .i64 a1), (5, .str y8_0), (6, .int .i64 y8_1), (26, .bool (!decide (x0_2 = 95)))]
     refine oR 7 (p' := (atN 5 (ctl1 g47p10))) (eE := E5) (H' := (mkH [])) (by kernel_rfl) ?_
     refine oH (fun (x1_5 : (List Nat)) => (.str x1_5, (mkH []))) (atN 6 (ctl1 g47p10)) (fun x1_5 => ((32, .str x1_5) :: E5)) (subH (some y8_1) (some (fW .i64 (y8_1 + 1))) (by kernel_rfl)) (fun _ => by kernel_rfl) (fun x1_5 hx1_5 => ?_)
     refine oH (fun (x1_6 : (List Nat)) => (.str x1_6, (mkH []))) (atN 7 (ctl1 g47p10)) (fun x1_6 => ((33, .str x1_6) :: (32, .str x1_5) :: E5)) (catH (by kernel_rfl)) (fun _ => by kernel_rfl) (fun x1_6 hx1_6 => ?_)
     refine oR 2 (p' := g47p11) (eE := ((5, .str x1_6) :: (33, .str x1_6) :: (32, .str x1_5) :: E5)) (H' := (mkH [])) (by kernel_rfl) ?_
     refine oK [0, 1, 5, 6] (eE := [(0, .str a0), (1, .int .i64 a1), (5, .str x1_6), (6, .int .i64 y8_1)]) (by kernel_rfl) ?_
     exact hj9 (x1_6, y8_1)
    ·let E6 : Env := [(26, .bool false), (0, .str a0), (1, .int .i64 a1), (5, .str y8_0), (6, .int .i64 y8_1), (26, .bool (!decide (x0_2 = 95)))]
     refine oR 2 (p' := g47p11) (eE := E6) (H' := (mkH [])) (by kernel_rfl) ?_
     refine oK [0, 1, 5, 6] (eE := [(0, .str a0), (1, .int .i64 a1), (5, .str y8_0), (6, .int .i64 y8_1)]) (by kernel_rfl) ?_
     exact hj9 (y8_0, y8_1)
  ·let E7 : Env := ((38, .int .i64 (fW .i64 (a1.tmod 10 + 1))) :: (37, .int .i64 (a1.tmod 10)) :: (36, .int .i64 a1) :: (35, .int .i64 (a1.tmod 10)) :: (34, .int .i64 a1) :: (20, .bool false) :: E2)
   refine oR 9 (p' := (atN 5 (ctl1 g47p7))) (eE := E7) (H' := (mkH [])) (by kernel_rfl) ?_
   refine oH (fun (x2_5 : (List Nat)) => (.str x2_5, (mkH []))) (atN 6 (ctl1 g47p7)) (fun x2_5 => ((39, .str x2_5) :: E7)) (subH (some (a1.tmod 10)) (some (fW .i64 (a1.tmod 10 + 1))) (by kernel_rfl)) (fun _ => by kernel_rfl) (fun x2_5 hx2_5 => ?_)
   refine oR 4 (p' := g47p9) (eE := ((7, .str x2_5) :: (39, .str x2_5) :: E7)) (H' := (mkH [])) (by kernel_rfl) ?_
   refine oK [0, 1, 5, 7] (eE := [(0, .str a0), (1, .int .i64 a1), (5, .str y8_0), (7, .str x2_5)]) (by kernel_rfl) ?_
   let E8 : Env := [(41, .bool (decide (10 ≤ a1))), (40, .int .i64 a1), (0, .str a0), (1, .int .i64 a1), (5, .str y8_0), (7, .str x2_5)]
   refine oR 4 (p' := g47p12) (eE := E8) (H' := (mkH [])) (by kernel_rfl) ?_
   refine oJ (f := fun (z10 : (List Nat) × (List Nat)) => (catS z10.1 ([35] : List Nat)).bind fun x4_1 => (catS x4_1 a0).bind fun x4_3 => (g37 k x4_3).bind fun x4_4 => (catS z10.1 ([35] : List Nat)).bind fun x5_1 => (catS x5_1 z10.2).bind fun x5_3 => (g37 k x5_3).bind fun x5_4 => g47_l11 k a0 a1 x4_4 x5_4 k z10.2 0 0) g47p14 (fun (z10 : (List Nat) × (List Nat)) => [(0, .str a0), (1, .int .i64 a1), (5, .str z10.2), (7, .str z10.1)]) (fun (z10 : (List Nat) × (List Nat)) => (mkH [])) (fun z10 => ?_) (fun j10 hj10 => ?_)
   ·let E9 : Env := [(51, .str z10.1), (0, .str a0), (1, .int .i64 a1), (5, .str z10.2), (7, .str z10.1)]
    refine oR 2 (p' := (atN 1 (ctl1 g47p14))) (eE := E9) (H' := (mkH [])) (by kernel_rfl) ?_
    refine oH (fun (x4_1 : (List Nat)) => (.str x4_1, (mkH []))) (atN 2 (ctl1 g47p14)) (fun x4_1 => ((52, .str x4_1) :: E9)) (catH (by kernel_rfl)) (fun _ => by kernel_rfl) (fun x4_1 hx4_1 => ?_)
    refine oR 1 (p' := (atN 3 (ctl1 g47p14))) (eE := ((53, .str a0) :: (52, .str x4_1) :: E9)) (H' := (mkH [])) (by kernel_rfl) ?_
    refine oH (fun (x4_3 : (List Nat)) => (.str x4_3, (mkH []))) (atN 4 (ctl1 g47p14)) (fun x4_3 => ((54, .str x4_3) :: (53, .str a0) :: (52, .str x4_1) :: E9)) (catH (by kernel_rfl)) (fun _ => by kernel_rfl) (fun x4_3 hx4_3 => ?_)
    refine oC (fun (x4_4 : (Int × Int)) => .tuple [.int .u64 x4_4.1, .int .i64 x4_4.2]) (atN 5 (ctl1 g47p14)) (fun x4_4 => ((55, .tuple [.int .u64 x4_4.1, .int .i64 x4_4.2]) :: (54, .str x4_3) :: (53, .str a0) :: (52, .str x4_1) :: E9)) (fi := 37) (args := [.str x4_3]) (by kernel_rfl) (by kernel_rfl) (fun _ => by kernel_rfl) (fun r h => g37_ok k x4_3 r h) (fun _ => by kernel_rfl) (fun x4_4 hx4_4 => ?_)
    let E10 : Env := ((9, .int .i64 x4_4.2) :: (8, .int .u64 x4_4.1) :: (57, .int .i64 x4_4.2) :: (56, .int .u64 x4_4.1) :: (50, .tuple [.int .u64 x4_4.1, .int .i64 x4_4.2]) :: (55, .tuple [.int .u64 x4_4.1, .int .i64 x4_4.2]) :: (54, .str x4_3) :: (53, .str a0) :: (52, .str x4_1) :: E9)
    refine oR 7 (p' := g47p15) (eE := E10) (H' := (mkH [])) (by kernel_rfl) ?_
    refine oK [0, 1, 5, 7, 8, 9] (eE := [(0, .str a0), (1, .int .i64 a1), (5, .str z10.2), (7, .str z10.1), (8, .int .u64 x4_4.1), (9, .int .i64 x4_4.2)]) (by kernel_rfl) ?_
    let E11 : Env := [(59, .str z10.1), (0, .str a0), (1, .int .i64 a1), (5, .str z10.2), (7, .str z10.1), (8, .int .u64 x4_4.1), (9, .int .i64 x4_4.2)]
    refine oR 2 (p' := (atN 1 (ctl1 g47p15))) (eE := E11) (H' := (mkH [])) (by kernel_rfl) ?_
    refine oH (fun (x5_1 : (List Nat)) => (.str x5_1, (mkH []))) (atN 2 (ctl1 g47p15)) (fun x5_1 => ((60, .str x5_1) :: E11)) (catH (by kernel_rfl)) (fun _ => by kernel_rfl) (fun x5_1 hx5_1 => ?_)
    refine oR 1 (p' := (atN 3 (ctl1 g47p15))) (eE := ((61, .str z10.2) :: (60, .str x5_1) :: E11)) (H' := (mkH [])) (by kernel_rfl) ?_
    refine oH (fun (x5_3 : (List Nat)) => (.str x5_3, (mkH []))) (atN 4 (ctl1 g47p15)) (fun x5_3 => ((62, .str x5_3) :: (61, .str z10.2) :: (60, .str x5_1) :: E11)) (catH (by kernel_rfl)) (fun _ => by kernel_rfl) (fun x5_3 hx5_3 => ?_)
    refine oC (fun (x5_4 : (Int × Int)) => .tuple [.int .u64 x5_4.1, .int .i64 x5_4.2]) (atN 5 (ctl1 g47p15)) (fun x5_4 => ((63, .tuple [.int .u64 x5_4.1, .int .i64 x5_4.2]) :: (62, .str x5_3) :: (61, .str z10.2) :: (60, .str x5_1) :: E11)) (fi := 37) (args := [.str x5_3]) (by kernel_rfl) (by kernel_rfl) (fun _ => by kernel_rfl) (fun r h => g37_ok k x5_3 r h) (fun _ => by kernel_rfl) (fun x5_4 hx5_4 => ?_)
    let E12 : Env := ((11, .int .i64 x5_4.2) :: (10, .int .u64 x5_4.1) :: (65, .int .i64 x5_4.2) :: (64, .int .u64 x5_4.1) :: (58, .tuple [.int .u64 x5_4.1, .int .i64 x5_4.2]) :: (63, .tuple [.int .u64 x5_4.1, .int .i64 x5_4.2]) :: (62, .str x5_3) :: (61, .str z10.2) :: (60, .str x5_1) :: E11)
    refine oR 7 (p' := g47p16) (eE := E12) (H' := (mkH [])) (by kernel_rfl) ?_
    refine oK [0, 1, 5, 8, 9, 10, 11] (eE := [(0, .str a0), (1, .int .i64 a1), (5, .str z10.2), (8, .int .u64 x4_4.1), (9, .int .i64 x4_4.2), (10, .int .u64 x5_4.1), (11, .int .i64 x5_4.2)]) (by kernel_rfl) ?_
    let E13 : Env := [(13, .int .i64 0), (12, .int .u64 0), (0, .str a0), (1, .int .i64 a1), (5, .str z10.2), (8, .int .u64 x4_4.1), (9, .int .i64 x4_4.2), (10, .int .u64 x5_4.1), (11, .int .i64 x5_4.2)]
    refine oR 10 (p' := g47p18) (eE := E13) (H' := (mkH [])) (by kernel_rfl) ?_
    refine oK [0, 1, 5, 8, 9, 10, 11, 12, 13] (eE := [(0, .str a0), (1, .int .i64 a1), (5, .str z10.2), (8, .int .u64 x4_4.1), (9, .int .i64 x4_4.2), (10, .int .u64 x5_4.1), (11, .int .i64 x5_4.2), (12, .int .u64 0), (13, .int .i64 0)]) (by kernel_rfl) ?_
    exact (g47_l11_ok k a0 a1 x4_4 x5_4 k) z10.2 0 0
   ·refine oS 41 (b := decide (10 ≤ a1)) (by kernel_rfl) (fun hb => ?_) (fun hb => ?_)
    ·let E34 : Env := ((46, .int .i64 (fW .i64 (fW .i64 (a1.tdiv 10) + 1))) :: (45, .int .i64 (fW .i64 (a1.tdiv 10))) :: (44, .int .i64 a1) :: (43, .int .i64 (fW .i64 (a1.tdiv 10))) :: (42, .int .i64 a1) :: (41, .bool true) :: E8)
     refine oR 7 (p' := (atN 5 (ctl1 g47p13))) (eE := E34) (H' := (mkH [])) (by kernel_rfl) ?_
     refine oH (fun (x3_5 : (List Nat)) => (.str x3_5, (mkH []))) (atN 6 (ctl1 g47p13)) (fun x3_5 => ((47, .str x3_5) :: E34)) (subH (some (fW .i64 (a1.tdiv 10))) (some (fW .i64 (fW .i64 (a1.tdiv 10) + 1))) (by kernel_rfl)) (fun _ => by kernel_rfl) (fun x3_5 hx3_5 => ?_)
     refine oR 1 (p' := (atN 7 (ctl1 g47p13))) (eE := ((48, .str x2_5) :: (47, .str x3_5) :: E34)) (H' := (mkH [])) (by kernel_rfl) ?_
     refine oH (fun (x3_7 : (List Nat)) => (.str x3_7, (mkH []))) (atN 8 (ctl1 g47p13)) (fun x3_7 => ((49, .str x3_7) :: (48, .str x2_5) :: (47, .str x3_5) :: E34)) (catH (by kernel_rfl)) (fun _ => by kernel_rfl) (fun x3_7 hx3_7 => ?_)
     refine oR 3 (p' := g47p14) (eE := ((7, .str x3_7) :: (49, .str x3_7) :: (48, .str x2_5) :: (47, .str x3_5) :: E34)) (H' := (mkH [])) (by kernel_rfl) ?_
     refine oK [0, 1, 5, 7] (eE := [(0, .str a0), (1, .int .i64 a1), (5, .str y8_0), (7, .str x3_7)]) (by kernel_rfl) ?_
     exact hj10 (x3_7, y8_0)
    ·refine oR 3 (p' := g47p14) (eE := ((41, .bool false) :: E8)) (H' := (mkH [])) (by kernel_rfl) ?_
     refine oK [0, 1, 5, 7] (eE := [(0, .str a0), (1, .int .i64 a1), (5, .str y8_0), (7, .str x2_5)]) (by kernel_rfl) ?_
     exact hj10 (x2_5, y8_0)
def g47 (k : Nat) (a0 : (List Nat)) (a1 : Int) : Option Bool :=
 g47_l8 k a0 a1 k ([] : List Nat) 0
theorem g47_ok (k : Nat) (a0 : (List Nat)) (a1 : Int) (r : Bool) (h : g47 k a0 a1 = some r) : PureOk Try.prog 47 [.str a0, .int .i64 a1] (.bool r) := by
 refine pure_of X47 (fun _ => rfl) Try.func47 (by decide +kernel) (by kernel_rfl) (t := g47 k a0 a1) ?_ h
 unfold g47
 refine oE (eE := [(0, .str a0), (1, .int .i64 a1)]) (by kernel_rfl) ?_
 let E1 : Env := [(6, .int .i64 0), (5, .str []), (4, .bool false), (0, .str a0), (1, .int .i64 a1)]
 refine oR 15 (p' := g47p3) (eE := E1) (H' := (mkH [])) (by kernel_rfl) ?_
 refine oK [0, 1, 5, 6] (eE := [(0, .str a0), (1, .int .i64 a1), (5, .str []), (6, .int .i64 0)]) (by kernel_rfl) ?_
 exact (g47_l8_ok k a0 a1 k) ([] : List Nat) 0
end
end Go.Proofs.Ytabhkocokojddaa.Am
set_option maxRecDepth 100000
set_option linter.unusedVariables false
namespace Go.Proofs.Ytabhkocokojddaa.Am
noncomputable section
open Go
def X11 : Fx Bool := ⟨Try.prog, cx, Try.f11, fun r => .bool r, 0, fun _ => H0, cxTi, cxOrd⟩
def g11c0 : List Nat := [48, 49, 50, 51, 52, 53, 54, 55, 56, 57, 97, 98, 99, 100, 101, 102, 103, 104, 105, 106, 107, 108, 109, 110, 111, 112, 113, 114, 115, 116, 117, 118, 119, 120, 121, 122]
def g11c1 : List Nat := [48, 49, 50, 51, 52, 53, 54, 55, 56, 57, 65, 66, 67, 68, 69, 70, 71, 72, 73, 74, 75, 76, 77, 78, 79, 80, 81, 82, 83, 84, 85, 86, 87, 88, 89, 90]
def g11p0 : Pt := nav [0] (bodyAt Try.f11)
def g11p1 : Pt := nav [0, 0, 0] g11p0
def g11p2 : Pt := nav [0, 0, 0] g11p1
def g11p3 : Pt := nav [0, 0, 0, 0] g11p2
def g11p4 : Pt := nav [0, 0] g11p3
def g11p6 : Pt := nav [2, 0, 0] g11p4
def g11p7 : Pt := nav [0, 0, 0, 0] g11p6
def g11p8 : Pt := nav [0, 0, 0, 0] g11p7
def g11p9 : Pt := nav [0, 0, 0, 0] g11p8
def g11p10 : Pt := nav [0, 0, 0] g11p9
def g11p11 : Pt := nav [0, 0, 0] g11p10
def g11p12 : Pt := nav [0, 0, 0, 0] g11p11
def g11p13 : Pt := nav [0, 0] g11p12
def g11p14 : Pt := nav [1, 0, 0] g11p13
def g11p15 : Pt := nav [2, 0, 0, 0] g11p13
def g11p17 : Pt := nav [0, 0] g11p15
def g11p18 : Pt := nav [1] g11p17
def g11p19 : Pt := nav [2, 0] g11p17
def g11_l7 (k : Nat)  (a1 : Int) (a2 : Int) (z6 : (List Nat)) (n : Nat) : Int → (List Nat) → Int → Option Bool :=
 Nat.rec (motive := fun _ => Int → (List Nat) → Int → Option Bool) (fun _ _ _ => none) (fun _ ih => fun (y7_0 : Int) (y7_1 : (List Nat)) (y7_2 : Int) => (remS y7_0 (fW .u64 (fW .i64 (2 + fW .i64 ((fW .u64 a1).tmod 35))))).bind fun x0_3 => (subL z6 (some (fW .i64 x0_3)) (some (fW .i64 (fW .i64 x0_3 + 1)))).bind fun x1_4 => (catS x1_4 y7_1).bind fun x1_6 => (quoS .u64 y7_0 (fW .u64 (fW .i64 (2 + fW .i64 ((fW .u64 a1).tmod 35))))).bind fun x2_3 => if (decide (x2_3 = 0)) then ((g36 k).bind fun x3_0 => if x3_0 then ((g47 k x1_6 (fW .i64 (2 + fW .i64 ((fW .u64 a1).tmod 35)))).bind fun x3_4 => some x3_4) else (some false)) else ((shrS .i64 a2 (fW .u64 (andI .i64 y7_2 15))).bind fun x5_4 => jn (fun (z8 : (List Nat) × Int) => ih x2_3 z8.1 (fW .i64 (z8.2 + 1))) (fun j8 => if (decide (andI .i64 x5_4 1 = 1)) then ((catS ([95] : List Nat) x1_6).bind fun x4_1 => j8 (x4_1, y7_2)) else (j8 (x1_6, y7_2))))) n
theorem g11_l7_s (k : Nat)  (a1 : Int) (a2 : Int) (z6 : (List Nat)) (n : Nat) (y7_0 : Int) (y7_1 : (List Nat)) (y7_2 : Int) : g11_l7 k a1 a2 z6 (n + 1) y7_0 y7_1 y7_2 = ((remS y7_0 (fW .u64 (fW .i64 (2 + fW .i64 ((fW .u64 a1).tmod 35))))).bind fun x0_3 => (subL z6 (some (fW .i64 x0_3)) (some (fW .i64 (fW .i64 x0_3 + 1)))).bind fun x1_4 => (catS x1_4 y7_1).bind fun x1_6 => (quoS .u64 y7_0 (fW .u64 (fW .i64 (2 + fW .i64 ((fW .u64 a1).tmod 35))))).bind fun x2_3 => if (decide (x2_3 = 0)) then ((g36 k).bind fun x3_0 => if x3_0 then ((g47 k x1_6 (fW .i64 (2 + fW .i64 ((fW .u64 a1).tmod 35)))).bind fun x3_4 => some x3_4) else (some false)) else ((shrS .i64 a2 (fW .u64 (andI .i64 y7_2 15))).bind fun x5_4 => jn (fun (z8 : (List Nat) × Int) => (g11_l7 k a1 a2 z6 n) x2_3 z8.1 (fW .i64 (z8.2 + 1))) (fun j8 => if (decide (andI .i64 x5_4 1 = 1)) then ((catS ([95] : List Nat) x1_6).bind fun x4_1 => j8 (x4_1, y7_2)) else (j8 (x1_6, y7_2))))) := rfl
theorem g11_l7_ok (k : Nat)  (a1 : Int) (a2 : Int) (z6 : (List Nat))  : ∀ (n : Nat) (y7_0 : Int) (y7_1 : (List Nat)) (y7_2 : Int), Ok X11 g11p8 [(0, .int .u64 y7_0), (2, .int .i64 a2), (9, .int .i64 (fW .i64 (2 + fW .i64 ((fW .u64 a1).tmod 35)))), (10, .str z6), (11, .str y7_1), (12, .int .i64 y7_2)] (mkH []) (g11_l7 k a1 a2 z6 n y7_0 y7_1 y7_2)
 | 0, _, _, _ => ok_none
 | n + 1, y7_0, y7_1, y7_2 => by
  have ih := g11_l7_ok k a1 a2 z6 n
  rw [g11_l7_s]
  refine ok_ent (p' := nav [0] g11p8) (by kernel_rfl) ?_
  let E4 : Env := [(25, .int .u64 (fW .u64 (fW .i64 (2 + fW .i64 ((fW .u64 a1).tmod 35))))), (24, .int .i64 (fW .i64 (2 + fW .i64 ((fW .u64 a1).tmod 35)))), (23, .int .u64 y7_0), (0, .int .u64 y7_0), (2, .int .i64 a2), (9, .int .i64 (fW .i64 (2 + fW .i64 ((fW .u64 a1).tmod 35)))), (10, .str z6), (11, .str y7_1), (12, .int .i64 y7_2)]
  refine oR 7 (p' := (atN 3 (ctl1 g11p9))) (eE := E4) (H' := (mkH [])) (by kernel_rfl) ?_
  refine oH (fun (x0_3 : Int) => (.int .u64 x0_3, (mkH []))) (atN 4 (ctl1 g11p9)) (fun x0_3 => ((26, .int .u64 x0_3) :: E4)) (remH (by kernel_rfl)) (fun _ => by kernel_rfl) (fun x0_3 hx0_3 => ?_)
  let E5 : Env := ((31, .int .i64 (fW .i64 (fW .i64 x0_3 + 1))) :: (30, .int .i64 (fW .i64 x0_3)) :: (29, .int .i64 (fW .i64 x0_3)) :: (28, .str z6) :: (13, .int .i64 (fW .i64 x0_3)) :: (27, .int .i64 (fW .i64 x0_3)) :: (26, .int .u64 x0_3) :: E4)
  refine oR 9 (p' := (atN 4 (ctl1 g11p10))) (eE := E5) (H' := (mkH [])) (by kernel_rfl) ?_
  refine oH (fun (x1_4 : (List Nat)) => (.str x1_4, (mkH []))) (atN 5 (ctl1 g11p10)) (fun x1_4 => ((32, .str x1_4) :: E5)) (subH (some (fW .i64 x0_3)) (some (fW .i64 (fW .i64 x0_3 + 1))) (by kernel_rfl)) (fun _ => by kernel_rfl) (fun x1_4 hx1_4 => ?_)
  refine oR 1 (p' := (atN 6 (ctl1 g11p10))) (eE := ((33, .str y7_1) :: (32, .str x1_4) :: E5)) (H' := (mkH [])) (by kernel_rfl) ?_
  refine oH (fun (x1_6 : (List Nat)) => (.str x1_6, (mkH []))) (atN 7 (ctl1 g11p10)) (fun x1_6 => ((34, .str x1_6) :: (33, .str y7_1) :: (32, .str x1_4) :: E5)) (catH (by kernel_rfl)) (fun _ => by kernel_rfl) (fun x1_6 hx1_6 => ?_)
  refine oR 3 (p' := g11p11) (eE := ((11, .str x1_6) :: (34, .str x1_6) :: (33, .str y7_1) :: (32, .str x1_4) :: E5)) (H' := (mkH [])) (by kernel_rfl) ?_
  refine oK [0, 2, 9, 10, 11, 12] (eE := [(0, .int .u64 y7_0), (2, .int .i64 a2), (9, .int .i64 (fW .i64 (2 + fW .i64 ((fW .u64 a1).tmod 35)))), (10, .str z6), (11, .str x1_6), (12, .int .i64 y7_2)]) (by kernel_rfl) ?_
  let E6 : Env := [(37, .int .u64 (fW .u64 (fW .i64 (2 + fW .i64 ((fW .u64 a1).tmod 35))))), (36, .int .i64 (fW .i64 (2 + fW .i64 ((fW .u64 a1).tmod 35)))), (35, .int .u64 y7_0), (0, .int .u64 y7_0), (2, .int .i64 a2), (9, .int .i64 (fW .i64 (2 + fW .i64 ((fW .u64 a1).tmod 35)))), (10, .str z6), (11, .str x1_6), (12, .int .i64 y7_2)]
  refine oR 4 (p' := (atN 3 (ctl1 g11p11))) (eE := E6) (H' := (mkH [])) (by kernel_rfl) ?_
  refine oH (fun (x2_3 : Int) => (.int .u64 x2_3, (mkH []))) (atN 4 (ctl1 g11p11)) (fun x2_3 => ((38, .int .u64 x2_3) :: E6)) (quoH (by kernel_rfl)) (fun _ => by kernel_rfl) (fun x2_3 hx2_3 => ?_)
  refine oR 8 (p' := g11p13) (eE := ((40, .bool (decide (x2_3 = 0))) :: (39, .int .u64 x2_3) :: (14, .int .u64 x2_3) :: (38, .int .u64 x2_3) :: E6)) (H' := (mkH [])) (by kernel_rfl) ?_
  refine oS 40 (b := decide (x2_3 = 0)) (by kernel_rfl) (fun hb => ?_) (fun hb => ?_)
  ·let E7 : Env := ((40, .bool true) :: (40, .bool (decide (x2_3 = 0))) :: (39, .int .u64 x2_3) :: (14, .int .u64 x2_3) :: (38, .int .u64 x2_3) :: E6)
   refine oR 4 (p' := (atN 0 (ctl1 g11p14))) (eE := E7) (H' := (mkH [])) (by kernel_rfl) ?_
   refine oC (fun (x3_0 : Bool) => .bool x3_0) (atN 1 (ctl1 g11p14)) (fun x3_0 => ((51, .bool x3_0) :: E7)) (fi := 36) (args := []) (by kernel_rfl) (by kernel_rfl) (fun _ => by kernel_rfl) (fun r h => g36_ok k  r h) (fun _ => by kernel_rfl) (fun x3_0 hx3_0 => ?_)
   refine oR 1 (p' := (atN 2 (ctl1 g11p14))) (eE := ((52, .bool x3_0) :: (51, .bool x3_0) :: E7)) (H' := (mkH [])) (by kernel_rfl) ?_
   refine oS 52 (b := x3_0) (by kernel_rfl) (fun hb => ?_) (fun hb => ?_)
   ·let E8 : Env := ((54, .int .i64 (fW .i64 (2 + fW .i64 ((fW .u64 a1).tmod 35)))) :: (53, .str x1_6) :: (52, .bool true) :: (52, .bool x3_0) :: (51, .bool x3_0) :: E7)
    refine oR 2 (p' := (atN 4 (ctl1 g11p14))) (eE := E8) (H' := (mkH [])) (by kernel_rfl) ?_
    refine oC (fun (x3_4 : Bool) => .bool x3_4) (atN 5 (ctl1 g11p14)) (fun x3_4 => ((55, .bool x3_4) :: E8)) (fi := 47) (args := [.str x1_6, .int .i64 (fW .i64 (2 + fW .i64 ((fW .u64 a1).tmod 35)))]) (by kernel_rfl) (by kernel_rfl) (fun _ => by kernel_rfl) (fun r h => g47_ok k x1_6 (fW .i64 (2 + fW .i64 ((fW .u64 a1).tmod 35))) r h) (fun _ => by kernel_rfl) (fun x3_4 hx3_4 => ?_)
    refine oR 4 (p' := .fin) (eE := ((8, .bool x3_4) :: (56, .bool x3_4) :: (55, .bool x3_4) :: E8)) (H' := (mkH [])) (by kernel_rfl) ?_
    exact oT (r := x3_4) (xs := [.bool x3_4]) (v := .bool x3_4) (by kernel_rfl) (by kernel_rfl) (by kernel_rfl) (.pures (by kernel_rfl)) (by kernel_rfl)
   ·let E9 : Env := ((8, .bool false) :: (56, .bool false) :: (55, .tuple []) :: (54, .tuple []) :: (53, .tuple []) :: (52, .bool false) :: (52, .bool x3_0) :: (51, .bool x3_0) :: E7)
    refine oR 7 (p' := .fin) (eE := E9) (H' := (mkH [])) (by kernel_rfl) ?_
    exact oT (r := false) (xs := [.bool false]) (v := .bool false) (by kernel_rfl) (by kernel_rfl) (by kernel_rfl) (.pures (by kernel_rfl)) (by kernel_rfl)
  ·let E10 : Env := ((44, .int .u64 (fW .u64 (andI .i64 y7_2 15))) :: (43, .int .i64 (andI .i64 y7_2 15)) :: (42, .int .i64 y7_2) :: (41, .int .i64 a2) :: (40, .bool false) :: (40, .bool (decide (x2_3 = 0))) :: (39, .int .u64 x2_3) :: (14, .int .u64 x2_3) :: (38, .int .u64 x2_3) :: E6)
   refine oR 9 (p' := (atN 4 (ctl1 g11p15))) (eE := E10) (H' := (mkH [])) (by kernel_rfl) ?_
   refine oH (fun (x5_4 : Int) => (.int .i64 x5_4, (mkH []))) (atN 5 (ctl1 g11p15)) (fun x5_4 => ((45, .int .i64 x5_4) :: E10)) (shrH (by kernel_rfl)) (fun _ => by kernel_rfl) (fun x5_4 hx5_4 => ?_)
   refine oR 3 (p' := g11p17) (eE := ((47, .bool (decide (andI .i64 x5_4 1 = 1))) :: (46, .int .i64 (andI .i64 x5_4 1)) :: (45, .int .i64 x5_4) :: E10)) (H' := (mkH [])) (by kernel_rfl) ?_
   refine oK [2, 9, 10, 11, 12, 14, 47] (eE := [(2, .int .i64 a2), (9, .int .i64 (fW .i64 (2 + fW .i64 ((fW .u64 a1).tmod 35)))), (10, .str z6), (11, .str x1_6), (12, .int .i64 y7_2), (14, .int .u64 x2_3), (47, .bool (decide (andI .i64 x5_4 1 = 1)))]) (by kernel_rfl) ?_
   refine oJ (f := fun (z8 : (List Nat) × Int) => (g11_l7 k a1 a2 z6 n) x2_3 z8.1 (fW .i64 (z8.2 + 1))) g11p19 (fun (z8 : (List Nat) × Int) => [(2, .int .i64 a2), (9, .int .i64 (fW .i64 (2 + fW .i64 ((fW .u64 a1).tmod 35)))), (10, .str z6), (11, .str z8.1), (12, .int .i64 z8.2), (14, .int .u64 x2_3)]) (fun (z8 : (List Nat) × Int) => (mkH [])) (fun z8 => ?_) (fun j8 hj8 => ?_)
   ·let E11 : Env := [(12, .int .i64 (fW .i64 (z8.2 + 1))), (22, .int .i64 (fW .i64 (z8.2 + 1))), (21, .int .i64 z8.2), (0, .int .u64 x2_3), (50, .int .u64 x2_3), (2, .int .i64 a2), (9, .int .i64 (fW .i64 (2 + fW .i64 ((fW .u64 a1).tmod 35)))), (10, .str z6), (11, .str z8.1), (12, .int .i64 z8.2), (14, .int .u64 x2_3)]
    refine oR 9 (p' := g11p8) (eE := E11) (H' := (mkH [])) (by kernel_rfl) ?_
    refine oK [0, 2, 9, 10, 11, 12] (eE := [(0, .int .u64 x2_3), (2, .int .i64 a2), (9, .int .i64 (fW .i64 (2 + fW .i64 ((fW .u64 a1).tmod 35)))), (10, .str z6), (11, .str z8.1), (12, .int .i64 (fW .i64 (z8.2 + 1)))]) (by kernel_rfl) ?_
    exact ih x2_3 z8.1 (fW .i64 (z8.2 + 1))
   ·refine oS 47 (b := decide (andI .i64 x5_4 1 = 1)) (by kernel_rfl) (fun hb => ?_) (fun hb => ?_)
    ·let E12 : Env := [(48, .str x1_6), (47, .bool true), (2, .int .i64 a2), (9, .int .i64 (fW .i64 (2 + fW .i64 ((fW .u64 a1).tmod 35)))), (10, .str z6), (11, .str x1_6), (12, .int .i64 y7_2), (14, .int .u64 x2_3), (47, .bool (decide (andI .i64 x5_4 1 = 1)))]
     refine oR 3 (p' := (atN 1 (ctl1 g11p18))) (eE := E12) (H' := (mkH [])) (by kernel_rfl) ?_
     refine oH (fun (x4_1 : (List Nat)) => (.str x4_1, (mkH []))) (atN 2 (ctl1 g11p18)) (fun x4_1 => ((49, .str x4_1) :: E12)) (catH (by kernel_rfl)) (fun _ => by kernel_rfl) (fun x4_1 hx4_1 => ?_)
     refine oR 2 (p' := g11p19) (eE := ((11, .str x4_1) :: (49, .str x4_1) :: E12)) (H' := (mkH [])) (by kernel_rfl) ?_
     refine oK [2, 9, 10, 11, 12, 14] (eE := [(2, .int .i64 a2), (9, .int .i64 (fW .i64 (2 + fW .i64 ((fW .u64 a1).tmod 35)))), (10, .str z6), (11, .str x4_1), (12, .int .i64 y7_2), (14, .int .u64 x2_3)]) (by kernel_rfl) ?_
     exact hj8 (x4_1, y7_2)
    ·let E13 : Env := [(47, .bool false), (2, .int .i64 a2), (9, .int .i64 (fW .i64 (2 + fW .i64 ((fW .u64 a1).tmod 35)))), (10, .str z6), (11, .str x1_6), (12, .int .i64 y7_2), (14, .int .u64 x2_3), (47, .bool (decide (andI .i64 x5_4 1 = 1)))]
     refine oR 2 (p' := g11p19) (eE := E13) (H' := (mkH [])) (by kernel_rfl) ?_
     refine oK [2, 9, 10, 11, 12, 14] (eE := [(2, .int .i64 a2), (9, .int .i64 (fW .i64 (2 + fW .i64 ((fW .u64 a1).tmod 35)))), (10, .str z6), (11, .str x1_6), (12, .int .i64 y7_2), (14, .int .u64 x2_3)]) (by kernel_rfl) ?_
     exact hj8 (x1_6, y7_2)
def g11 (k : Nat) (a0 : Int) (a1 : Int) (a2 : Int) (a3 : Bool) : Option Bool :=
 jn (fun (z6 : (List Nat)) => g11_l7 k a1 a2 z6 k a0 ([] : List Nat) 0) (fun j6 => if a3 then (j6 (g11c1 : List Nat)) else (j6 (g11c0 : List Nat)))
theorem g11_ok (k : Nat) (a0 : Int) (a1 : Int) (a2 : Int) (a3 : Bool) (r : Bool) (h : g11 k a0 a1 a2 a3 = some r) : PureOk Try.prog 11 [.int .u64 a0, .int .i64 a1, .int .i64 a2, .bool a3] (.bool r) := by
 refine pure_of X11 (fun _ => rfl) Try.func11 (by decide +kernel) (by kernel_rfl) (t := g11 k a0 a1 a2 a3) ?_ h
 unfold g11
 refine oE (eE := [(0, .int .u64 a0), (1, .int .i64 a1), (2, .int .i64 a2), (3, .bool a3)]) (by kernel_rfl) ?_
 let E1 : Env := [(9, .int .i64 (fW .i64 (2 + fW .i64 ((fW .u64 a1).tmod 35)))), (19, .int .i64 (fW .i64 (2 + fW .i64 ((fW .u64 a1).tmod 35)))), (18, .int .i64 (fW .i64 ((fW .u64 a1).tmod 35))), (17, .int .u64 ((fW .u64 a1).tmod 35)), (16, .int .u64 (fW .u64 a1)), (15, .int .i64 a1), (8, .bool false), (0, .int .u64 a0), (1, .int .i64 a1), (2, .int .i64 a2), (3, .bool a3)]
 refine oR 14 (p' := g11p2) (eE := E1) (H' := (mkH [])) (by kernel_rfl) ?_
 refine oK [0, 2, 3, 9] (eE := [(0, .int .u64 a0), (2, .int .i64 a2), (3, .bool a3), (9, .int .i64 (fW .i64 (2 + fW .i64 ((fW .u64 a1).tmod 35))))]) (by kernel_rfl) ?_
 let E2 : Env := [(20, .bool a3), (10, .str g11c0), (0, .int .u64 a0), (2, .int .i64 a2), (3, .bool a3), (9, .int .i64 (fW .i64 (2 + fW .i64 ((fW .u64 a1).tmod 35))))]
 refine oR 8 (p' := g11p4) (eE := E2) (H' := (mkH [])) (by kernel_rfl) ?_
 refine oJ (f := fun (z6 : (List Nat)) => g11_l7 k a1 a2 z6 k a0 ([] : List Nat) 0) g11p6 (fun (z6 : (List Nat)) => [(0, .int .u64 a0), (2, .int .i64 a2), (9, .int .i64 (fW .i64 (2 + fW .i64 ((fW .u64 a1).tmod 35)))), (10, .str z6)]) (fun (z6 : (List Nat)) => (mkH [])) (fun z6 => ?_) (fun j6 hj6 => ?_)
 ·let E3 : Env := [(12, .int .i64 0), (11, .str []), (0, .int .u64 a0), (2, .int .i64 a2), (9, .int .i64 (fW .i64 (2 + fW .i64 ((fW .u64 a1).tmod 35)))), (10, .str z6)]
  refine oR 10 (p' := g11p8) (eE := E3) (H' := (mkH [])) (by kernel_rfl) ?_
  refine oK [0, 2, 9, 10, 11, 12] (eE := [(0, .int .u64 a0), (2, .int .i64 a2), (9, .int .i64 (fW .i64 (2 + fW .i64 ((fW .u64 a1).tmod 35)))), (10, .str z6), (11, .str []), (12, .int .i64 0)]) (by kernel_rfl) ?_
  exact (g11_l7_ok k a1 a2 z6 k) a0 ([] : List Nat) 0
 ·refine oS 20 (b := a3) (by kernel_rfl) (fun hb => ?_) (fun hb => ?_)
  ·refine oR 5 (p' := g11p6) (eE := ((10, .str g11c1) :: (20, .bool true) :: E2)) (H' := (mkH [])) (by kernel_rfl) ?_
   refine oK [0, 2, 9, 10] (eE := [(0, .int .u64 a0), (2, .int .i64 a2), (9, .int .i64 (fW .i64 (2 + fW .i64 ((fW .u64 a1).tmod 35)))), (10, .str g11c1)]) (by kernel_rfl) ?_
   exact hj6 (g11c1 : List Nat)
  ·refine oR 3 (p' := g11p6) (eE := ((20, .bool false) :: E2)) (H' := (mkH [])) (by kernel_rfl) ?_
   refine oK [0, 2, 9, 10] (eE := [(0, .int .u64 a0), (2, .int .i64 a2), (9, .int .i64 (fW .i64 (2 + fW .i64 ((fW .u64 a1).tmod 35)))), (10, .str g11c0)]) (by kernel_rfl) ?_
   exact hj6 (g11c0 : List Nat)
end
end Go.Proofs.Ytabhkocokojddaa.Am
set_option maxRecDepth 100000
set_option linter.unusedVariables false
set_option linter.unusedSimpArgs false
namespace Go.Proofs.Ytabhkocokojddaa.Am
open Go
def clnN (s : List Nat) : List Nat := s.filter fun c => !decide (c = 95)
theorem valO_cln (b : Nat) : ∀ (s : List Nat) (v : Nat), valO b v (clnN s) = valO b v s
 | [], v => rfl
 | c :: r, v => by
  by_cases h : c = 95
  ·subst h
   have : clnN (95 :: r) = clnN r := rfl
   rw [this, valO_cln b r v]; rfl
  ·have : clnN (c :: r) = c :: clnN r := by unfold clnN; rw [List.filter_cons, if_pos (by simp [h])]
   rw [this]
   simp only [valO, if_neg h]
   rw [valO_cln b r]
theorem run_alld {b : Nat} : ∀ (p : Bool) (s : List Nat), (∀ c ∈ s, dgN c < b) → runN b p s = s.length
 | _, [], _ => rfl
 | p, c :: r, h => by rw [runN_cons, if_pos (h c List.mem_cons_self), run_alld true r (fun x hx => h x (List.mem_cons_of_mem _ hx)), List.length_cons]
theorem cln_len (s : List Nat) : (clnN s).length ≤ s.length := List.length_filter_le _ _
theorem cln_mem {s : List Nat} {c : Nat} (h : c ∈ clnN s) : c ∈ s ∧ c ≠ 95 := by
 have := List.mem_filter.1 h
 exact ⟨this.1, by simpa using this.2⟩
theorem int_based {b : Nat} (hb : 2 ≤ b ∧ b ≤ 36) {s : List Nat} (hs : s ≠ []) (hr : runN b false s = s.length) {n : Nat} (hv : valO b 0 s = some n) :
 intN ((if 10 ≤ b then [48 + b / 10, 48 + b % 10] else [48 + b % 10]) ++ 35 :: s) = ((n : Int), 0) := by
 have spos : 0 < s.length := List.length_pos_iff.2 hs
 have dg : ∀ d, d < 10 → dgN (48 + d) = d := by intro d hd; unfold dgN; rw [if_pos (by omega)]; omega
 have fin : ∀ (u : List Nat) (m : Nat), u.length = m → frontN (u ++ 35 :: s) = (m + 1, b) → intN (u ++ 35 :: s) = ((n : Int), 0) := by
  intro u m hu hf
  have hd : (u ++ 35 :: s).drop (m + 1) = s := by
   have := List.drop_left (l₁ := u) (l₂ := 35 :: s)
   rw [hu] at this
   exact drop_step this
  have hw : wholeN (u ++ 35 :: s) = (u ++ 35 :: s).length := by
   unfold wholeN
   rw [hf]
   simp only [hd, hr]
   rw [if_pos ⟨by omega, spos⟩]
   simp only [List.length_append, List.length_cons]; omega
  unfold intN
  rw [if_neg (by rintro (h | h); simp at h; exact h hw), hf]
  simp only [hd, hv]
 by_cases h10 : 10 ≤ b
 ·rw [if_pos h10]
  refine fin _ 2 rfl ?_
  have d1 := dg (b / 10) (by omega)
  have d2 := dg (b % 10) (Nat.mod_lt _ (by decide))
  simp only [List.cons_append, List.nil_append, frontN]
  rw [d1, d2, if_pos (by omega), if_neg (by omega), if_pos (Nat.mod_lt _ (by decide)), if_pos ⟨trivial, by omega⟩]
  refine Prod.ext rfl ?_
  simp only []; omega
 ·rw [if_neg h10]
  refine fin _ 1 rfl ?_
  have d2 := dg (b % 10) (Nat.mod_lt _ (by decide))
  cases s with
  | nil => exact absurd rfl hs
  | cons c r =>
   simp only [List.cons_append, List.nil_append, frontN, if_true]
   rw [d2, if_pos (Nat.mod_lt _ (by decide)), if_pos (by omega)]
   refine Prod.ext rfl ?_
   simp only []; omega
theorem int_ten {s : List Nat} (hs : s ≠ []) (hr : runN 10 false s = s.length) {n : Nat} (hv : valO 10 0 s = some n) : intN s = ((n : Int), 0) := by
 have all := run_full false s hr
 have hf : frontN s = (0, 10) := by
  rcases front_v' s with h | ⟨m, r, hm⟩
  ·exact h
  ·rcases all 35 (List.mem_of_mem_drop (i := m) (by rw [hm]; exact List.mem_cons_self)) with h | h
   ·cases h
   ·exact absurd h (by decide)
 have hw : wholeN s = s.length := by unfold wholeN; rw [hf, if_neg (fun h => absurd h.1 (by decide))]; exact hr
 unfold intN
 rw [if_neg (by rintro (h | h); exact hs h; exact h hw), hf]
 simp only [List.drop_zero, hv]
theorem whole_v2 (k : Nat) {a0 : List Nat} {b : Nat} (hb : 2 ≤ b ∧ b ≤ 36) {n : Nat} (hn : n < 18446744073709551616) (ht10 : b = 10 → g37 k a0 = some ((n : Int), 0)) {t : List Nat} (hl : t.length ≤ 1000) (hd : ∀ c ∈ t, dgN c < b) : ∀ (f i v : Nat), t.length < i + f → i ≤ t.length → v < 18446744073709551616 → valO b v (t.drop i) = some n →
 g47_l11 k a0 (b : Int) ((n : Int), 0) ((n : Int), 0) f t (v : Int) (i : Int) = some true
 | 0, i, v, h, h2, hv, hval => by omega
 | f + 1, i, v, h, h2, hv, hval => by
  rw [g47_l11_s]
  rcases Nat.lt_or_ge i t.length with hi | hi
  ·obtain ⟨c, r, hc, hr, hm, hrl⟩ := dcons hi
   have dc := hd c hm
   have nc := nthX (x := (i : Int)) rfl hc
   rw [hc] at hval
   have rng : c ≠ 95 ∧ (48 ≤ c ∧ c ≤ 57 ∧ dgN c = c - 48 ∨ 97 ≤ c ∧ c ≤ 122 ∧ dgN c = c - 87 ∨ 65 ≤ c ∧ c ≤ 90 ∧ dgN c = c - 55) := by
    unfold dgN at dc ⊢
    by_cases h1 : 48 ≤ c ∧ c ≤ 57
    ·rw [if_pos h1]; exact ⟨by omega, .inl ⟨h1.1, h1.2, rfl⟩⟩
    ·rw [if_neg h1] at dc ⊢
     by_cases h2 : 97 ≤ c ∧ c ≤ 122
     ·rw [if_pos h2]; exact ⟨by omega, .inr (.inl ⟨h2.1, h2.2, rfl⟩)⟩
     ·rw [if_neg h2] at dc ⊢
      by_cases h3 : 65 ≤ c ∧ c ≤ 90
      ·rw [if_pos h3]; exact ⟨by omega, .inr (.inr ⟨h3.1, h3.2, rfl⟩)⟩
      ·rw [if_neg h3] at dc; omega
   simp only [valO, if_neg rng.1] at hval
   by_cases ho : v * b + dgN c < 18446744073709551616
   ·rw [if_pos ho] at hval
    have ih := whole_v2 k hb hn ht10 hl hd f (i + 1) (v * b + dgN c) (by omega) (by omega) ho (by rw [hr]; exact hval)
    refine iT (dT (by omega)) ?_
    refine bS (by (try simp (disch := omega) only [fwI]); exact nc) ?_
    rw [fwI (n := (c : Int)) (by omega) (by omega)]
    refine (jS (v := ((dgN c : Int), (v : Int), (i : Int))) (fun j => ?_)).trans ?_
    ·rcases rng.2 with ⟨h1, h2, h3⟩ | ⟨h1, h2, h3⟩ | ⟨h1, h2, h3⟩
     ·refine iF (dF (by omega)) ?_
      refine iF (dF (by omega)) ?_
      rw [fwI (by omega) (by omega), h3]
      exact congrArg j (Prod.ext (by simp only []; omega) rfl)
     ·refine iT (dT (by omega)) ?_
      rw [fwI (n := (c : Int) - 97) (by omega) (by omega), fwI (by omega) (by omega), h3]
      exact congrArg j (Prod.ext (by simp only []; omega) rfl)
     ·refine iF (dF (by omega)) ?_
      refine iT (dT (by omega)) ?_
      rw [fwI (n := (c : Int) - 65) (by omega) (by omega), fwI (by omega) (by omega), h3]
      exact congrArg j (Prod.ext (by simp only []; omega) rfl)
    ·show g47_l11 k a0 (b : Int) _ _ f t (fW .u64 (fW .u64 ((v : Int) * fW .u64 (b : Int)) + fW .u64 ((dgN c : Nat) : Int))) (fW .i64 ((i : Int) + 1)) = _
     have e : (v : Int) * (b : Int) = ((v * b : Nat) : Int) := (Int.natCast_mul _ _).symm
     rw [fu (n := (b : Int)) (by omega) (by omega), fu (n := ((dgN c : Nat) : Int)) (by omega) (by omega), e, fu (n := ((v * b : Nat) : Int)) (by omega) (by omega)]
     have e2 : ((v * b : Nat) : Int) + ((dgN c : Nat) : Int) = ((v * b + dgN c : Nat) : Int) := (Int.natCast_add _ _).symm
     rw [e2, fu (by omega) (by omega), fw_s (by omega)]
     exact ih
   ·rw [if_neg ho] at hval; cases hval
  ·rw [dnil hi] at hval
   simp only [valO] at hval
   cases hval
   refine iF (dF (by omega)) ?_
   refine (jS (v := (false, (n : Int))) (fun j => ?_)).trans ?_
   ·refine iF rfl ?_
    refine iF rfl ?_
    refine iF (by rw [dT rfl]; rfl) ?_
    rw [dT rfl]; rfl
   ·refine iF rfl ?_
    by_cases h10 : b = 10
    ·refine iT (dT (by omega)) ?_
     refine bS (by (try simp (disch := omega) only [fwI]); exact ht10 h10) ?_
     refine iT rfl ?_
     rw [dT rfl]
    ·exact iF (dF (by omega)) rfl
theorem whole_c (k : Nat) (hk : 900 ≤ k) {s : List Nat} (hs : By s) (hl : s.length ≤ 200) (hne : s ≠ []) {b : Nat} (hb : 2 ≤ b ∧ b ≤ 36) (hr : runN b false s = s.length) {n : Nat} (hn : n < 18446744073709551616) (hv : valO b 0 s = some n) (hd0 : clnN s ≠ []) : ∀ (f i : Nat), s.length < i + f → i ≤ s.length →
 g47_l8 k s (b : Int) f (clnN (s.take i)) (i : Int) = some true
 | 0, i, h, h2 => by omega
 | f + 1, i, h, h2 => by
  rw [g47_l8_s]
  rcases Nat.lt_or_ge i s.length with hi | hi
  ·obtain ⟨c, r, hc, hr', hm, hrl⟩ := dcons hi
   have nc := nthX (x := (i : Int)) rfl hc
   have ih := whole_c k hk hs hl hne hb hr hn hv hd0 f (i + 1) (by omega) (by omega)
   have et : s.take (i + 1) = s.take i ++ [c] := by rw [List.take_add, hc]; rfl
   have ec : clnN (s.take (i + 1)) = clnN (s.take i) ++ (if c = 95 then [] else [c]) := by
    rw [et]; unfold clnN
    rw [List.filter_append]
    by_cases h : c = 95
    ·subst h; rfl
    ·rw [if_neg h, List.filter_cons, if_pos (by simp [h])]; rfl
   rw [ec] at ih
   have cl := cln_len (s.take i)
   rw [List.length_take] at cl
   refine iT (dT (by omega)) ?_
   refine bS (by (try simp (disch := omega) only [fwI]); exact nc) ?_
   refine (jS (v := (clnN (s.take i) ++ (if c = 95 then [] else [c]), (i : Int))) (fun j => ?_)).trans ?_
   ·by_cases h : c = 95
    ·rw [if_pos h, List.append_nil]
     exact iF (by rw [dT (by omega)]; rfl) rfl
    ·rw [if_neg h]
     refine iT (by rw [dF (by omega)]; rfl) ?_
     rw [fw_s (by omega)]
     refine bS (by (try simp (disch := omega) only [fwI]); exact sub1 hc) ?_
     have c1 : catS (clnN (s.take i)) [c] = some (clnN (s.take i) ++ [c]) := by unfold catS; rw [if_pos (by simp only [List.length_cons, List.length_nil]; omega)]
     refine bS (by (try simp (disch := omega) only [fwI]); exact c1) ?_
     rfl
   ·show g47_l8 k s (b : Int) f _ (fW .i64 ((i : Int) + 1)) = _
    rw [fw_s (by omega)]
    exact ih
  ·rw [List.take_of_length_le hi]
   refine iF (dF (by omega)) ?_
   have tab : ∀ d, d < 10 → ∃ r, g47c0.drop d = (48 + d) :: r := by
    intro d hd
    have : ((List.range 10).all fun d => (g47c0.drop d).head? == some (48 + d)) = true := by decide
    have := List.all_eq_true.1 this d (List.mem_range.2 hd)
    cases hh : g47c0.drop d with
    | nil => rw [hh] at this; cases this
    | cons x r =>
     rw [hh] at this
     have e := eq_of_beq this
     simp only [List.head?_cons, Option.some.injEq] at e
     exact ⟨r, by rw [e]⟩
   have all := run_full false s hr
   have hdc : ∀ c ∈ clnN s, dgN c < b := fun c hc => (all c (cln_mem hc).1).resolve_left (cln_mem hc).2
   have cl := cln_len s
   have iv := int_based hb hne hr hv
   have ivc := int_based hb hd0 (run_alld false _ hdc) (by rw [valO_cln]; exact hv)
   obtain ⟨r1, hr1⟩ := tab (b % 10) (Nat.mod_lt _ (by decide))
   rw [show ((b : Nat) : Int).tmod 10 = ((b % 10 : Nat) : Int) from rfl, show ((b : Nat) : Int).tdiv 10 = ((b / 10 : Nat) : Int) from rfl, fw_s (n := b % 10) (by omega)]
   refine bS (by (try simp (disch := omega) only [fwI]); exact sub1 hr1) ?_
   have bcl : By (clnN s) := fun c hc => hs c (cln_mem hc).1
   have pl : ∀ (p : List Nat), p.length ≤ 2 → (∀ c ∈ p, c < 256) → intN (p ++ 35 :: s) = ((n : Int), 0) → intN (p ++ 35 :: clnN s) = ((n : Int), 0) →
    (catS p [35]).bind (fun x4_1 => (catS x4_1 s).bind fun x4_3 => (g37 k x4_3).bind fun x4_4 => (catS p [35]).bind fun x5_1 => (catS x5_1 (clnN s)).bind fun x5_3 => (g37 k x5_3).bind fun x5_4 => g47_l11 k s (b : Int) x4_4 x5_4 k (clnN s) 0 0) = some true := by
    intro p hp hpb h1 h2
    have c1 : catS p [35] = some (p ++ [35]) := by unfold catS; rw [if_pos (by simp only [List.length_cons, List.length_nil]; omega)]
    have c2 : catS (p ++ [35]) s = some (p ++ 35 :: s) := by unfold catS; rw [if_pos (by simp only [List.length_append, List.length_cons, List.length_nil]; omega), List.append_assoc]; rfl
    have c3 : catS (p ++ [35]) (clnN s) = some (p ++ 35 :: clnN s) := by unfold catS; rw [if_pos (by simp only [List.length_append, List.length_cons, List.length_nil]; omega), List.append_assoc]; rfl
    have b1 : By (p ++ 35 :: s) := By.app hpb (fun c hc => by
     rcases List.mem_cons.1 hc with rfl | hc
     ·decide
     ·exact hs c hc)
    have b2 : By (p ++ 35 :: clnN s) := By.app hpb (fun c hc => by
     rcases List.mem_cons.1 hc with rfl | hc
     ·decide
     ·exact bcl c hc)
    refine bS (by (try simp (disch := omega) only [fwI]); exact c1) ?_
    refine bS (by (try simp (disch := omega) only [fwI]); exact c2) ?_
    refine bS (by (try simp (disch := omega) only [fwI]); exact Integer_at (k := k) (s := p ++ 35 :: s) (by simp only [List.length_append, List.length_cons]; omega) (by omega) b1 (by unfold Sz; simp only [List.length_append, List.length_cons]; omega)) ?_
    refine bS (by (try simp (disch := omega) only [fwI]); exact c1) ?_
    refine bS (by (try simp (disch := omega) only [fwI]); exact c3) ?_
    refine bS (by (try simp (disch := omega) only [fwI]); exact Integer_at (k := k) (s := p ++ 35 :: clnN s) (by simp only [List.length_append, List.length_cons]; omega) (by omega) b2 (by unfold Sz; simp only [List.length_append, List.length_cons]; omega)) ?_
    rw [h1, h2]
    refine whole_v2 k hb hn (fun h10 => ?_) (t := clnN s) (by omega) hdc k 0 0 (by omega) (by omega) (by decide) (by rw [List.drop_zero, valO_cln]; exact hv)
    rw [Integer_at (k := k) (by omega) (by omega) hs (by unfold Sz; omega)]
    subst h10
    rw [int_ten hne hr hv]
   by_cases h10 : 10 ≤ b
   ·rw [if_pos h10] at iv ivc
    obtain ⟨r2, hr2⟩ := tab (b / 10) (by omega)
    refine (jS (v := ([48 + b / 10, 48 + b % 10], clnN s)) (fun j => ?_)).trans ?_
    ·refine iT (dT (by omega)) ?_
     rw [fwI (n := ((b / 10 : Nat) : Int)) (by omega) (by omega), fw_s (n := b / 10) (by omega)]
     refine bS (by (try simp (disch := omega) only [fwI]); exact sub1 hr2) ?_
     have c1 : catS [48 + b / 10] [48 + b % 10] = some [48 + b / 10, 48 + b % 10] := rfl
     refine bS (by (try simp (disch := omega) only [fwI]); exact c1) ?_
     rfl
    ·refine pl _ (Nat.le_refl _) (fun c hc => ?_) iv ivc
     simp only [List.mem_cons, List.not_mem_nil, or_false] at hc
     omega
   ·rw [if_neg h10] at iv ivc
    refine (jS (v := ([48 + b % 10], clnN s)) (fun j => ?_)).trans ?_
    ·exact iF (dF (by omega)) rfl
    ·refine pl _ (by simp) (fun c hc => ?_) iv ivc
     simp only [List.mem_cons, List.not_mem_nil, or_false] at hc
     omega
theorem shrS_some (x : Int) (n : Nat) (h : n < 64) : ∃ y, shrS .i64 x (n : Int) = some y := by
 unfold shrS
 simp
theorem build_s (k : Nat) (hk : 900 ≤ k) {a1 a2 : Int} {b : Nat} (hb : 2 ≤ b ∧ b ≤ 36) (ha1 : fW .i64 (2 + fW .i64 ((fW .u64 a1).tmod 35)) = (b : Int)) {T : List Nat} (hT : T.length = 36) (hTd : ∀ d, d < 36 → ∃ c r, T.drop d = c :: r ∧ dgN c = d ∧ c < 256) {N : Nat} (hN : N < 18446744073709551616)
 {m f cur i V w : Nat} {acc : List Nat} (hf : m < f) (hc64 : cur < 18446744073709551616) (hal : acc.length ≤ 190) (hi : i ≤ 100) (hby : By acc) (hrun : runN b true acc = acc.length) (hval : ∀ u, u * b ^ w + V < 18446744073709551616 → valO b u acc = some (u * b ^ w + V)) (hV : V < b ^ w) (hN' : cur * b ^ w + V = N)
 (next : cur / b ≠ 0 → ∀ f', m ≤ f' → ∀ acc' : List Nat, acc'.length ≤ acc.length + 2 → By acc' → runN b true acc' = acc'.length → (∀ u, u * b ^ (w + 1) + (cur % b * b ^ w + V) < 18446744073709551616 → valO b u acc' = some (u * b ^ (w + 1) + (cur % b * b ^ w + V))) → cur % b * b ^ w + V < b ^ (w + 1) → cur / b * b ^ (w + 1) + (cur % b * b ^ w + V) = N → g11_l7 (k + 60) a1 a2 T f' ((cur / b : Nat) : Int) acc' ((i + 1 : Nat) : Int) = some true) :
 g11_l7 (k + 60) a1 a2 T f (cur : Int) acc (i : Int) = some true := by
 obtain ⟨f, rfl⟩ : ∃ g, f = g + 1 := ⟨f - 1, by omega⟩
 have hm := Nat.mod_lt cur (show 0 < b by omega)
 obtain ⟨c, r, hr, hdg, h256⟩ := hTd (cur % b) (by omega)
 have c95 : c ≠ 95 := by rintro rfl; rw [show dgN 95 = 99 from rfl] at hdg; omega
 have hbw : 1 ≤ b ^ w := Nat.one_le_pow _ _ (by omega)
 have r1 : runN b false (c :: acc) = (c :: acc).length := by rw [runN_cons, if_pos (by omega), hrun]; rfl
 have r2 : runN b true (c :: acc) = (c :: acc).length := by rw [runN_cons, if_pos (by omega), hrun]; rfl
 have r3 : runN b true (95 :: c :: acc) = (95 :: c :: acc).length := by
  rw [runN_cons, if_neg (by rw [show dgN 95 = 99 from rfl]; omega), if_pos (by rw [isD_cons, decide_eq_true (by omega : dgN c < b)]; rfl), r1]; rfl
 have pe : ∀ u : Nat, u * b ^ (w + 1) + (cur % b * b ^ w + V) = (u * b + cur % b) * b ^ w + V := by
  intro u
  rw [Nat.pow_succ, Nat.add_mul, Nat.mul_assoc u b, Nat.mul_comm b (b ^ w)]; omega
 have v1 : ∀ u, u * b ^ (w + 1) + (cur % b * b ^ w + V) < 18446744073709551616 → valO b u (c :: acc) = some (u * b ^ (w + 1) + (cur % b * b ^ w + V)) := by
  intro u hu
  rw [pe] at hu ⊢
  have hle : u * b + cur % b ≤ (u * b + cur % b) * b ^ w := Nat.le_mul_of_pos_right _ hbw
  simp only [valO, if_neg c95, hdg]
  rw [if_pos (by omega)]
  exact hval _ hu
 have v2 : ∀ u, valO b u (95 :: c :: acc) = valO b u (c :: acc) := fun u => rfl
 have hV1 : cur % b * b ^ w + V < b ^ (w + 1) := by
  have : (cur % b + 1) * b ^ w ≤ b * b ^ w := Nat.mul_le_mul_right _ (by omega)
  rw [Nat.add_mul, Nat.one_mul] at this
  rw [Nat.pow_succ, Nat.mul_comm (b ^ w) b]; omega
 have hN1 : cur / b * b ^ (w + 1) + (cur % b * b ^ w + V) = N := by
  rw [pe, Nat.mul_comm (cur / b) b, Nat.div_add_mod]; exact hN'
 rw [g11_l7_s, ha1, fu (n := (b : Int)) (by omega) (by omega)]
 have rm : remS (cur : Int) (b : Int) = some ((cur % b : Nat) : Int) := by unfold remS; rw [if_neg (by omega)]; rfl
 have qm : quoS .u64 (cur : Int) (b : Int) = some ((cur / b : Nat) : Int) := by
  unfold quoS
  rw [if_neg (by omega), show ((cur : Nat) : Int).tdiv (b : Int) = ((cur / b : Nat) : Int) from rfl]
  have := Nat.div_le_self cur b
  generalize cur / b = Q at *
  rw [fu (by omega) (by omega)]
 refine bS (by (try simp (disch := omega) only [fwI]); exact rm) ?_
 rw [fwI (n := ((cur % b : Nat) : Int)) (by clear pe v1 hV1 hN1; generalize cur % b = R at *; omega) (by clear pe v1 hV1 hN1; generalize cur % b = R at *; omega), fw_s (n := cur % b) (by clear pe v1 hV1 hN1; generalize cur % b = R at *; omega)]
 refine bS (by (try simp (disch := omega) only [fwI]); exact sub1 hr) ?_
 have c1 : catS [c] acc = some (c :: acc) := by unfold catS; rw [if_pos (by simp only [List.length_cons, List.length_nil]; omega)]; rfl
 refine bS (by (try simp (disch := omega) only [fwI]); exact c1) ?_
 refine bS (by (try simp (disch := omega) only [fwI]); exact qm) ?_
 have b1 : By (c :: acc) := fun x hx => by
  rcases List.mem_cons.1 hx with rfl | hx
  ·exact h256
  ·exact hby x hx
 by_cases h0 : cur / b = 0
 ·refine iT (dT (by rw [h0]; rfl)) ?_
  refine bS (by (try simp (disch := omega) only [fwI]); exact told4 k) ?_
  refine iT rfl ?_
  have hv0 : valO b 0 (c :: acc) = some N := by
   have := v1 0 (by rw [h0] at hN1; omega)
   rw [h0] at hN1
   rw [this, ← hN1]
  have cne : clnN (c :: acc) ≠ [] := by unfold clnN; rw [List.filter_cons, if_pos (by simp [c95])]; simp
  have := whole_c (k + 60) (by omega) b1 (by simp only [List.length_cons]; omega) (by simp) hb r1 hN hv0 cne (k + 60) 0 (by simp only [List.length_cons]; omega) (Nat.zero_le _)
  have hw : g47 (k + 60) (c :: acc) (b : Int) = some true := this
  refine bS (by (try simp (disch := omega) only [fwI]); exact hw) ?_
  rfl
 ·refine iF (dF (by generalize cur / b = Q at *; omega)) ?_
  obtain ⟨y, hy⟩ := shrS_some a2 (i % 16) (by omega)
  have a15 : andI .i64 (i : Int) 15 = ((i % 16 : Nat) : Int) := andI64 (i : Int) 4 (by decide)
  rw [a15, fu (n := ((i % 16 : Nat) : Int)) (by omega) (by omega)]
  clear a15
  refine bS (by (try simp (disch := omega) only [fwI]); exact hy) ?_
  by_cases hu : andI .i64 y 1 = 1
  ·refine (jS (v := (95 :: c :: acc, (i : Int))) (fun j => ?_)).trans ?_
   ·refine iT (dT hu) ?_
    have c2 : catS [95] (c :: acc) = some (95 :: c :: acc) := by unfold catS; rw [if_pos (by simp only [List.length_cons, List.length_nil]; omega)]; rfl
    refine bS (by (try simp (disch := omega) only [fwI]); exact c2) ?_
    rfl
   ·show g11_l7 (k + 60) a1 a2 T f ((cur / b : Nat) : Int) (95 :: c :: acc) (fW .i64 ((i : Int) + 1)) = _
    rw [fw_s (by clear hu; omega)]
    exact next h0 f (by omega) _ (by simp only [List.length_cons]; omega) (fun x hx => by
     rcases List.mem_cons.1 hx with rfl | hx
     ·decide
     ·exact b1 x hx) r3 v1 hV1 hN1
  ·refine (jS (v := (c :: acc, (i : Int))) (fun j => iF (dF hu) rfl)).trans ?_
   show g11_l7 (k + 60) a1 a2 T f ((cur / b : Nat) : Int) (c :: acc) (fW .i64 ((i : Int) + 1)) = _
   rw [fw_s (by clear hu; omega)]
   exact next h0 f (by omega) _ (by simp only [List.length_cons]; omega) b1 r2 v1 hV1 hN1
theorem build_l (k : Nat) (hk : 900 ≤ k) {a1 a2 : Int} {b : Nat} (hb : 2 ≤ b ∧ b ≤ 36) (ha1 : fW .i64 (2 + fW .i64 ((fW .u64 a1).tmod 35)) = (b : Int)) {T : List Nat} (hT : T.length = 36) (hTd : ∀ d, d < 36 → ∃ c r, T.drop d = c :: r ∧ dgN c = d ∧ c < 256) {N : Nat} (hN : N < 18446744073709551616) :
 ∀ (m f cur i V w : Nat) (acc : List Nat), cur < b ^ (m + 1) → m < f → cur < 18446744073709551616 → acc.length + 2 * m ≤ 190 → i + m ≤ 100 → By acc → runN b true acc = acc.length → (∀ u, u * b ^ w + V < 18446744073709551616 → valO b u acc = some (u * b ^ w + V)) → V < b ^ w → cur * b ^ w + V = N →
 g11_l7 (k + 60) a1 a2 T f (cur : Int) acc (i : Int) = some true := by
 intro m
 induction m with
 | zero =>
  intro f cur i V w acc hcur hf hc64 hal him hby hrun hval hV hN'
  exact build_s k hk hb ha1 hT hTd hN hf hc64 (by omega) (by omega) hby hrun hval hV hN' (fun hne => absurd (Nat.div_eq_of_lt (by simpa using hcur)) hne)
 | succ m ih =>
  intro f cur i V w acc hcur hf hc64 hal him hby hrun hval hV hN'
  refine build_s k hk hb ha1 hT hTd hN hf hc64 (by omega) (by omega) hby hrun hval hV hN' (fun hne f' hf' acc' h1 h2 h3 h4 h5 h6 => ?_)
  refine ih f' (cur / b) (i + 1) _ (w + 1) acc' ?_ (by omega) (by have := Nat.div_le_self cur b; omega) (by omega) (by omega) h2 h3 h4 h5 h6
  rw [Nat.pow_succ] at hcur
  exact Nat.div_lt_of_lt_mul (by rw [Nat.mul_comm]; exact hcur)
theorem litWhole_true (n base unders : Int) (upper : Bool) (hn : 0 ≤ n ∧ n ≤ 18446744073709551615) : ∃ k, g11 k n base unders upper = some true := by
 refine ⟨940 + 60, ?_⟩
 obtain ⟨c, hc, h1, -⟩ := tmod_at base 35 (by decide) (by decide)
 have h1' : (fW .u64 base).tmod 35 = (c : Int) := h1
 have hnn : n.toNat < 18446744073709551616 := by omega
 have pw : n.toNat < (c + 2) ^ (63 + 1) := by
  have h2 : 2 ^ 64 ≤ (c + 2) ^ 64 := Nat.pow_le_pow_left (by omega) 64
  exact Nat.lt_of_lt_of_le hnn h2
 have ha1 : fW .i64 (2 + fW .i64 ((fW .u64 base).tmod 35)) = ((c + 2 : Nat) : Int) := by
  rw [h1', fwI (n := (c : Int)) (by omega) (by omega), fwI (by omega) (by omega)]; omega
 have en : n = ((n.toNat : Nat) : Int) := (Int.toNat_of_nonneg hn.1).symm
 have tabs : ∀ T : List Nat, ((List.range 36).all fun d => match T.drop d with | c :: _ => decide (dgN c = d) && decide (c < 256) | [] => false) = true → ∀ d, d < 36 → ∃ c r, T.drop d = c :: r ∧ dgN c = d ∧ c < 256 := by
  intro T h d hd
  have := List.all_eq_true.1 h d (List.mem_range.2 hd)
  cases hh : T.drop d with
  | nil => rw [hh] at this; cases this
  | cons x r =>
   rw [hh] at this
   simp only [Bool.and_eq_true, decide_eq_true_eq] at this
   exact ⟨x, r, rfl, this.1, this.2⟩
 have run : ∀ T : List Nat, T.length = 36 → (∀ d, d < 36 → ∃ c r, T.drop d = c :: r ∧ dgN c = d ∧ c < 256) → g11_l7 (940 + 60) base unders T (940 + 60) n [] 0 = some true := by
  intro T t1 t2
  rw [en]
  refine build_l 940 (by omega) (b := c + 2) (by omega) ha1 t1 t2 (N := n.toNat) (by omega) 63 (940 + 60) n.toNat 0 0 0 [] pw (by omega) (by omega) (by simp) (by omega) (fun b hb => by cases hb) rfl (fun u hu => ?_) (by simp) (by simp)
  simp [valO]
 unfold g11
 cases upper with
 | true =>
  refine (jS (v := (g11c1 : List Nat)) (fun j => iT rfl rfl)).trans ?_
  exact run _ rfl (tabs _ (by decide))
 | false =>
  refine (jS (v := (g11c0 : List Nat)) (fun j => iF rfl rfl)).trans ?_
  exact run _ rfl (tabs _ (by decide))
end Go.Proofs.Ytabhkocokojddaa.Am
set_option linter.unusedVariables false
set_option linter.unusedSimpArgs false
namespace Go.Proofs.Ytabhkocokojddaa.Am
open Go
theorem litWhole_walk (a0 : Int) (a1 : Int) (a2 : Int) (a3 : Bool) (W : World) (w0 : (Lit.int .u64 a0).wf = true) (w1 : (Lit.int .i64 a1).wf = true) (w2 : (Lit.int .i64 a2).wf = true) : Calls Try.prog 11 #[.int .u64 a0, .int .i64 a1, .int .i64 a2, .bool a3] W fun e W' => e = .returned (.bool true) ∧ RowKit.Below W.heap.size W W' := by
 obtain ⟨k, h⟩ := litWhole_true a0 a1 a2 a3 (by simpa [Lit.wf, IntKind.min, IntKind.max, IntKind.signed, IntKind.bits] using w0)
 exact law_walk (g11_ok k a0 a1 a2 a3 true h) (by simp only [VRs, VR]; exact ⟨_, _, rfl, rfl, ⟨_, _, rfl, rfl, ⟨_, _, rfl, rfl, ⟨_, _, rfl, rfl, rfl⟩⟩⟩⟩) W
end Go.Proofs.Ytabhkocokojddaa.Am
namespace Go.Proofs.Ytabhkocokojddaa.litWhole
open Go.ChangeShapes Go.WideShapes Go.ChangeAt Go.RowKit
open Go.ChangeMaps (open_string shut_string)
set_option linter.unusedVariables false
theorem own : ownKnob Try.prog.godebug = none := by kernel_rfl
set_option maxRecDepth 100000 in
theorem lifted (os : Os) (started : os.Started) (H : Type) (enc : TypeId × Value → H) :
 ReturnsInHanded {} Try.checked os 11 .any (Rows.litWholeSpec.pre6 enc Try.prog Try.f11 Rows.litWholeRow.domain false) (Rows.litWholeSpec.post enc Try.prog Try.f11 false true false false) := by
 refine returnsInHanded_of_change_sized (C := Try.checked) own started (by kernel_rfl) Try.func11
  (ChangeSpec.witness6 (enc := enc) (C := Try.checked) false ⟨#[], #[.int .u64 0, .int .i64 0, .int .i64 0, .bool false], []⟩ 8 (by kernel_rfl) (by kernel_rfl) (by kernel_rfl) (by kernel_rfl)) ?_
 intro W base args ds gs before hval0 hW hcnd hsz0 _
 have hsz : (DataW.weightsEach Try.prog (Try.f11.params.toList ++ Rows.litWholeSpec.plain.varTypes Try.prog) (ds ++ gs)).all (· ≤ reachBytes) = true := hsz0
 have hval : ∀ (j : Nat) t v, Try.f11.params[j]? = some t → args[j]? = some v → Value.okWide Try.prog W .any base t v := hval0
 have hW' := hW
 obtain ⟨p, q, hA0, hV, rfl, hfz, hnd⟩ := hW
 have hA : DataW.TrodAll enc Try.prog W 0 (fun _ => true) true Try.f11.params.toList args.toList ds p := hA0
 rw [Try.params11] at hA hval hsz
 obtain ⟨v0, vs0, d0, ds0, p0, q0, hargs, rfl, rfl, h0, r0⟩ := trodAll_cons hA
 obtain ⟨v1, vs1, d1, ds1, p1, q1, rfl, rfl, rfl, h1, r1⟩ := trodAll_cons r0
 obtain ⟨v2, vs2, d2, ds2, p2, q2, rfl, rfl, rfl, h2, r2⟩ := trodAll_cons r1
 obtain ⟨v3, vs3, d3, ds3, p3, q3, rfl, rfl, rfl, h3, r3⟩ := trodAll_cons r2
 obtain ⟨rfl, rfl, rfl⟩ := trodAll_nil r3
 obtain rfl : args = #[v0, v1, v2, v3] := by cases args; simp_all
 obtain ⟨rfl, rfl⟩ := trodVars_none hV
 obtain ⟨a0, rfl, rfl, rfl, w0⟩ := open_int Try.underlying44 (hval 0 44 v0 rfl rfl) h0
 obtain ⟨a1, rfl, rfl, rfl, w1⟩ := open_int Try.underlying3 (hval 1 3 v1 rfl rfl) h1
 obtain ⟨a2, rfl, rfl, rfl, w2⟩ := open_int Try.underlying3 (hval 2 3 v2 rfl rfl) h2
 obtain ⟨a3, rfl, rfl, rfl⟩ := open_bool Try.underlying4 (hval 3 4 v3 rfl rfl) h3
 clear hA0 hval0 hsz0 hsz
 refine (Am.litWhole_walk a0 a1 a2 a3 W w0 w1 w2).mono fun e W' ⟨he, bel⟩ => ?_
 subst he
 exact ⟨_, rfl, _, _, _, [], _, [], hW', trodAll_mk1 (shut_bool Try.underlying4 _), (trodAll_cons_mk (shut_int Try.underlying44 w0) (trodAll_cons_mk (shut_int Try.underlying3 w1) (trodAll_cons_mk (shut_int Try.underlying3 w2) (trodAll_cons_mk (shut_bool Try.underlying4 _) trodAll_mk0)))), rfl, bel.frame _, fun h => by cases h⟩
theorem over : Rows.litWholeRow.holds Try.pinned (OpenSpec.ofChange Rows.litWholeSpec) :=
 OpenClaim.holds_of_wide 11 Try.f11 rfl rfl rfl rfl rfl rfl rfl ⟨rfl, rfl, rfl, rfl, rfl⟩ rfl rfl rfl rfl rfl (by kernel_rfl) Try.func11 (by kernel_rfl)
  (of_decide_eq_true (by kernel_rfl)) (by unfold Func.isWrapper; first | (rw [if_pos (by decide +kernel)]; kernel_rfl) | (rw [if_neg (by decide +kernel)]; exact ⟨rfl, rfl⟩))
  (fun os started H enc _ => lifted os started H enc)
theorem proved : Rows.LitWholeSaid := over
#print axioms proved
end Go.Proofs.Ytabhkocokojddaa.litWhole
namespace Go.Proofs.Ytabhkocokojddaa
theorem litWhole_holds : Rows.LitWholeSaid := litWhole.proved
end Go.Proofs.Ytabhkocokojddaa
