/- LawSplitJoins, part 5: whatever the input, the law comes out true: our texts, joined by a tool, without what the claim does not name. -/
import Derived.Test.YtbmijiibfaacmaaPkSplitJoins4
import Derived.Below
import Derived.Test.YtbmijiibfaacmaaRows
import Derived.WalkKit
import Derived.ProofKit
import Derived.OpenShut
import Derived.ShutString
import Derived.ChangeOld
import Derived.SizedLaws
set_option maxRecDepth 100000
set_option linter.unusedVariables false
namespace Go.Proofs.Ytbmijiibfaacmaa.Am
noncomputable section
open Go
def g8 (k : Nat) (a0 : (List Nat)) (a1 : (List Nat)) : Option Bool :=
 jn (fun (z13 : Bool) => if z13 then ((g27 k).bind fun x0_0 => some x0_0) else ((catS a0 ([32, 120, 46, 10] : List Nat)).bind fun x1_1 => (g28 k x1_1).bind fun x2_1 => (g28 k a1).bind fun x3_1 => (catS x1_1 a1).bind fun x4_2 => (g28 k x4_2).bind fun x4_3 => jn (fun (z14 : Bool) => if z14 then ((g27 k).bind fun x5_0 => some x5_0) else (if (!decide (x4_3.2 = 0)) then (some false) else ((g29 k x1_1 x2_1.1).bind fun x6_2 => (g29 k a1 x3_1.1).bind fun x6_5 => (catS x1_1 a1).bind fun x6_8 => (g29 k x6_8 x4_3.1).bind fun x6_10 => jn (fun (z15 : Bool) => if z15 then ((g27 k).bind fun x8_0 => some x8_0) else (jn (fun (z16 : Bool) => if z16 then (some false) else (g8_l17 k x2_1 x6_2 x6_5 x6_10 k 0)) (fun j16 => if (!decide ((x6_10.length : Int) = fW .i64 ((x6_2.length : Int) + (x6_5.length : Int)))) then (j16 true) else ((subL x6_10 none (some (x6_2.length : Int))).bind fun x9_12 => (g31 k x9_12 x6_2).bind fun x9_14 => j16 (!x9_14))))) (fun j15 => if (decide ((x2_1.1.length : Int) = 0)) then (j15 true) else ((nthL x2_1.1 (fW .i64 ((x2_1.1.length : Int) - 1))).bind fun x7_8 => j15 (!decide (x7_8.f0 = 10))))))) (fun j14 => if (!decide (x2_1.2 = 0)) then (j14 true) else (j14 (!decide (x3_1.2 = 0)))))) (fun j13 => if (decide (500 < (a0.length : Int))) then (j13 true) else (j13 (decide (500 < (a1.length : Int)))))
theorem g8_ok (k : Nat) (a0 : (List Nat)) (a1 : (List Nat)) (r : Bool) (h : g8 k a0 a1 = some r) : PureOk Try.prog 8 [.str a0, .str a1] (.bool r) := by
 refine pure_of X8 (fun _ => rfl) Try.func8 (by decide +kernel) (by kernel_rfl) (t := g8 k a0 a1) ?_ h
 unfold g8
 refine oE (eE := [(0, .str a0), (1, .str a1)]) (by kernel_rfl) ?_
 let E1 : Env := [(19, .bool (decide (500 < (a0.length : Int)))), (18, .bool (decide (500 < (a0.length : Int)))), (17, .int .i64 (a0.length : Int)), (16, .str a0), (4, .bool false), (0, .str a0), (1, .str a1)]
 refine oR 11 (p' := (atN 4 (ctl1 g8p1))) (eE := E1) (H' := (mkH [])) (by kernel_rfl) ?_
 refine oJ (f := fun (z13 : Bool) => if z13 then ((g27 k).bind fun x0_0 => some x0_0) else ((catS a0 ([32, 120, 46, 10] : List Nat)).bind fun x1_1 => (g28 k x1_1).bind fun x2_1 => (g28 k a1).bind fun x3_1 => (catS x1_1 a1).bind fun x4_2 => (g28 k x4_2).bind fun x4_3 => jn (fun (z14 : Bool) => if z14 then ((g27 k).bind fun x5_0 => some x5_0) else (if (!decide (x4_3.2 = 0)) then (some false) else ((g29 k x1_1 x2_1.1).bind fun x6_2 => (g29 k a1 x3_1.1).bind fun x6_5 => (catS x1_1 a1).bind fun x6_8 => (g29 k x6_8 x4_3.1).bind fun x6_10 => jn (fun (z15 : Bool) => if z15 then ((g27 k).bind fun x8_0 => some x8_0) else (jn (fun (z16 : Bool) => if z16 then (some false) else (g8_l17 k x2_1 x6_2 x6_5 x6_10 k 0)) (fun j16 => if (!decide ((x6_10.length : Int) = fW .i64 ((x6_2.length : Int) + (x6_5.length : Int)))) then (j16 true) else ((subL x6_10 none (some (x6_2.length : Int))).bind fun x9_12 => (g31 k x9_12 x6_2).bind fun x9_14 => j16 (!x9_14))))) (fun j15 => if (decide ((x2_1.1.length : Int) = 0)) then (j15 true) else ((nthL x2_1.1 (fW .i64 ((x2_1.1.length : Int) - 1))).bind fun x7_8 => j15 (!decide (x7_8.f0 = 10))))))) (fun j14 => if (!decide (x2_1.2 = 0)) then (j14 true) else (j14 (!decide (x3_1.2 = 0)))))) g8p2 (fun (z13 : Bool) => [(0, .str a0), (1, .str a1), (23, .bool z13)]) (fun (z13 : Bool) => (mkH [])) (fun z13 => ?_) (fun j13 hj13 => ?_)
 ·refine oS 23 (b := z13) (by kernel_rfl) (fun hb => ?_) (fun hb => ?_)
  ·refine oR 3 (p' := (atN 0 (ctl1 g8p3))) (eE := [(23, .bool true), (0, .str a0), (1, .str a1), (23, .bool z13)]) (H' := (mkH [])) (by kernel_rfl) ?_
   refine oC (fun (x0_0 : Bool) => .bool x0_0) (atN 1 (ctl1 g8p3)) (fun x0_0 => [(24, .bool x0_0), (23, .bool true), (0, .str a0), (1, .str a1), (23, .bool z13)]) (fi := 27) (args := []) (by kernel_rfl) (by kernel_rfl) (fun _ => by kernel_rfl) (fun r h => g27_ok k  r h) (fun _ => by kernel_rfl) (fun x0_0 hx0_0 => ?_)
   let E2 : Env := [(4, .bool x0_0), (24, .bool x0_0), (23, .bool true), (0, .str a0), (1, .str a1), (23, .bool z13)]
   refine oR 3 (p' := .fin) (eE := E2) (H' := (mkH [])) (by kernel_rfl) ?_
   exact oT (r := x0_0) (xs := [.bool x0_0]) (v := .bool x0_0) (by kernel_rfl) (by kernel_rfl) (by kernel_rfl) (.pures (by kernel_rfl)) (by kernel_rfl)
  ·let E3 : Env := [(25, .str a0), (23, .bool false), (0, .str a0), (1, .str a1), (23, .bool z13)]
   refine oR 5 (p' := (atN 1 (ctl1 g8p4))) (eE := E3) (H' := (mkH [])) (by kernel_rfl) ?_
   refine oH (fun (x1_1 : (List Nat)) => (.str x1_1, (mkH []))) (atN 2 (ctl1 g8p4)) (fun x1_1 => ((26, .str x1_1) :: E3)) (catH (by kernel_rfl)) (fun _ => by kernel_rfl) (fun x1_1 hx1_1 => ?_)
   refine oR 5 (p' := (atN 1 (ctl1 g8p6))) (eE := ((28, .str x1_1) :: (0, .str x1_1) :: (26, .str x1_1) :: E3)) (H' := (mkH [])) (by kernel_rfl) ?_
   refine oC (fun (x2_1 : ((List S46) × Int)) => .tuple [.vec (x2_1.1).length 3 ((x2_1.1).flatMap e47), .int .i64 x2_1.2]) (atN 2 (ctl1 g8p6)) (fun x2_1 => ((29, .tuple [.vec (x2_1.1).length 3 ((x2_1.1).flatMap e47), .int .i64 x2_1.2]) :: (28, .str x1_1) :: (0, .str x1_1) :: (26, .str x1_1) :: E3)) (fi := 28) (args := [.str x1_1]) (by kernel_rfl) (by kernel_rfl) (fun _ => by kernel_rfl) (fun r h => g28_ok k x1_1 r h) (fun _ => by kernel_rfl) (fun x2_1 hx2_1 => ?_)
   let E4 : Env := ((6, .int .i64 x2_1.2) :: (5, .vec (x2_1.1).length 3 ((x2_1.1).flatMap e47)) :: (31, .int .i64 x2_1.2) :: (30, .vec (x2_1.1).length 3 ((x2_1.1).flatMap e47)) :: (27, .tuple [.vec (x2_1.1).length 3 ((x2_1.1).flatMap e47), .int .i64 x2_1.2]) :: (29, .tuple [.vec (x2_1.1).length 3 ((x2_1.1).flatMap e47), .int .i64 x2_1.2]) :: (28, .str x1_1) :: (0, .str x1_1) :: (26, .str x1_1) :: E3)
   refine oR 7 (p' := g8p7) (eE := E4) (H' := (mkH [])) (by kernel_rfl) ?_
   refine oK [0, 1, 5, 6] (eE := [(0, .str x1_1), (1, .str a1), (5, .vec (x2_1.1).length 3 ((x2_1.1).flatMap e47)), (6, .int .i64 x2_1.2)]) (by kernel_rfl) ?_
   let E5 : Env := [(33, .str a1), (0, .str x1_1), (1, .str a1), (5, .vec (x2_1.1).length 3 ((x2_1.1).flatMap e47)), (6, .int .i64 x2_1.2)]
   refine oR 2 (p' := (atN 1 (ctl1 g8p7))) (eE := E5) (H' := (mkH [])) (by kernel_rfl) ?_
   refine oC (fun (x3_1 : ((List S46) × Int)) => .tuple [.vec (x3_1.1).length 3 ((x3_1.1).flatMap e47), .int .i64 x3_1.2]) (atN 2 (ctl1 g8p7)) (fun x3_1 => ((34, .tuple [.vec (x3_1.1).length 3 ((x3_1.1).flatMap e47), .int .i64 x3_1.2]) :: E5)) (fi := 28) (args := [.str a1]) (by kernel_rfl) (by kernel_rfl) (fun _ => by kernel_rfl) (fun r h => g28_ok k a1 r h) (fun _ => by kernel_rfl) (fun x3_1 hx3_1 => ?_)
   let E6 : Env := ((39, .str a1) :: (38, .str x1_1) :: (8, .int .i64 x3_1.2) :: (7, .vec (x3_1.1).length 3 ((x3_1.1).flatMap e47)) :: (36, .int .i64 x3_1.2) :: (35, .vec (x3_1.1).length 3 ((x3_1.1).flatMap e47)) :: (32, .tuple [.vec (x3_1.1).length 3 ((x3_1.1).flatMap e47), .int .i64 x3_1.2]) :: (34, .tuple [.vec (x3_1.1).length 3 ((x3_1.1).flatMap e47), .int .i64 x3_1.2]) :: E5)
   refine oR 10 (p' := (atN 2 (ctl1 g8p8))) (eE := E6) (H' := (mkH [])) (by kernel_rfl) ?_
   refine oH (fun (x4_2 : (List Nat)) => (.str x4_2, (mkH []))) (atN 3 (ctl1 g8p8)) (fun x4_2 => ((40, .str x4_2) :: E6)) (catH (by kernel_rfl)) (fun _ => by kernel_rfl) (fun x4_2 hx4_2 => ?_)
   refine oC (fun (x4_3 : ((List S46) × Int)) => .tuple [.vec (x4_3.1).length 3 ((x4_3.1).flatMap e47), .int .i64 x4_3.2]) (atN 4 (ctl1 g8p8)) (fun x4_3 => ((41, .tuple [.vec (x4_3.1).length 3 ((x4_3.1).flatMap e47), .int .i64 x4_3.2]) :: (40, .str x4_2) :: E6)) (fi := 28) (args := [.str x4_2]) (by kernel_rfl) (by kernel_rfl) (fun _ => by kernel_rfl) (fun r h => g28_ok k x4_2 r h) (fun _ => by kernel_rfl) (fun x4_3 hx4_3 => ?_)
   let E7 : Env := ((10, .int .i64 x4_3.2) :: (9, .vec (x4_3.1).length 3 ((x4_3.1).flatMap e47)) :: (43, .int .i64 x4_3.2) :: (42, .vec (x4_3.1).length 3 ((x4_3.1).flatMap e47)) :: (37, .tuple [.vec (x4_3.1).length 3 ((x4_3.1).flatMap e47), .int .i64 x4_3.2]) :: (41, .tuple [.vec (x4_3.1).length 3 ((x4_3.1).flatMap e47), .int .i64 x4_3.2]) :: (40, .str x4_2) :: E6)
   refine oR 8 (p' := g8p9) (eE := E7) (H' := (mkH [])) (by kernel_rfl) ?_
   refine oK [0, 1, 5, 6, 7, 8, 9, 10] (eE := [(0, .str x1_1), (1, .str a1), (5, .vec (x2_1.1).length 3 ((x2_1.1).flatMap e47)), (6, .int .i64 x2_1.2), (7, .vec (x3_1.1).length 3 ((x3_1.1).flatMap e47)), (8, .int .i64 x3_1.2), (9, .vec (x4_3.1).length 3 ((x4_3.1).flatMap e47)), (10, .int .i64 x4_3.2)]) (by kernel_rfl) ?_
   let E8 : Env := [(46, .bool (!decide (x2_1.2 = 0))), (45, .bool (!decide (x2_1.2 = 0))), (44, .int .i64 x2_1.2), (0, .str x1_1), (1, .str a1), (5, .vec (x2_1.1).length 3 ((x2_1.1).flatMap e47)), (6, .int .i64 x2_1.2), (7, .vec (x3_1.1).length 3 ((x3_1.1).flatMap e47)), (8, .int .i64 x3_1.2), (9, .vec (x4_3.1).length 3 ((x4_3.1).flatMap e47)), (10, .int .i64 x4_3.2)]
   refine oR 4 (p' := (atN 3 (ctl1 g8p9))) (eE := E8) (H' := (mkH [])) (by kernel_rfl) ?_
   refine oJ (f := fun (z14 : Bool) => if z14 then ((g27 k).bind fun x5_0 => some x5_0) else (if (!decide (x4_3.2 = 0)) then (some false) else ((g29 k x1_1 x2_1.1).bind fun x6_2 => (g29 k a1 x3_1.1).bind fun x6_5 => (catS x1_1 a1).bind fun x6_8 => (g29 k x6_8 x4_3.1).bind fun x6_10 => jn (fun (z15 : Bool) => if z15 then ((g27 k).bind fun x8_0 => some x8_0) else (jn (fun (z16 : Bool) => if z16 then (some false) else (g8_l17 k x2_1 x6_2 x6_5 x6_10 k 0)) (fun j16 => if (!decide ((x6_10.length : Int) = fW .i64 ((x6_2.length : Int) + (x6_5.length : Int)))) then (j16 true) else ((subL x6_10 none (some (x6_2.length : Int))).bind fun x9_12 => (g31 k x9_12 x6_2).bind fun x9_14 => j16 (!x9_14))))) (fun j15 => if (decide ((x2_1.1.length : Int) = 0)) then (j15 true) else ((nthL x2_1.1 (fW .i64 ((x2_1.1.length : Int) - 1))).bind fun x7_8 => j15 (!decide (x7_8.f0 = 10))))))) g8p10 (fun (z14 : Bool) => [(0, .str x1_1), (1, .str a1), (5, .vec (x2_1.1).length 3 ((x2_1.1).flatMap e47)), (7, .vec (x3_1.1).length 3 ((x3_1.1).flatMap e47)), (9, .vec (x4_3.1).length 3 ((x4_3.1).flatMap e47)), (10, .int .i64 x4_3.2), (49, .bool z14)]) (fun (z14 : Bool) => (mkH [])) (fun z14 => ?_) (fun j14 hj14 => ?_)
   ·refine oS 49 (b := z14) (by kernel_rfl) (fun hb => ?_) (fun hb => ?_)
    ·let E9 : Env := [(49, .bool true), (0, .str x1_1), (1, .str a1), (5, .vec (x2_1.1).length 3 ((x2_1.1).flatMap e47)), (7, .vec (x3_1.1).length 3 ((x3_1.1).flatMap e47)), (9, .vec (x4_3.1).length 3 ((x4_3.1).flatMap e47)), (10, .int .i64 x4_3.2), (49, .bool z14)]
     refine oR 3 (p' := (atN 0 (ctl1 g8p11))) (eE := E9) (H' := (mkH [])) (by kernel_rfl) ?_
     refine oC (fun (x5_0 : Bool) => .bool x5_0) (atN 1 (ctl1 g8p11)) (fun x5_0 => ((50, .bool x5_0) :: E9)) (fi := 27) (args := []) (by kernel_rfl) (by kernel_rfl) (fun _ => by kernel_rfl) (fun r h => g27_ok k  r h) (fun _ => by kernel_rfl) (fun x5_0 hx5_0 => ?_)
     refine oR 3 (p' := .fin) (eE := ((4, .bool x5_0) :: (50, .bool x5_0) :: E9)) (H' := (mkH [])) (by kernel_rfl) ?_
     exact oT (r := x5_0) (xs := [.bool x5_0]) (v := .bool x5_0) (by kernel_rfl) (by kernel_rfl) (by kernel_rfl) (.pures (by kernel_rfl)) (by kernel_rfl)
    ·let E10 : Env := [(52, .bool (!decide (x4_3.2 = 0))), (51, .int .i64 x4_3.2), (49, .bool false), (0, .str x1_1), (1, .str a1), (5, .vec (x2_1.1).length 3 ((x2_1.1).flatMap e47)), (7, .vec (x3_1.1).length 3 ((x3_1.1).flatMap e47)), (9, .vec (x4_3.1).length 3 ((x4_3.1).flatMap e47)), (10, .int .i64 x4_3.2), (49, .bool z14)]
     refine oR 8 (p' := g8p13) (eE := E10) (H' := (mkH [])) (by kernel_rfl) ?_
     refine oS 52 (b := !decide (x4_3.2 = 0)) (by kernel_rfl) (fun hb => ?_) (fun hb => ?_)
     ·refine oR 6 (p' := .fin) (eE := ((4, .bool false) :: (52, .bool true) :: E10)) (H' := (mkH [])) (by kernel_rfl) ?_
      exact oT (r := false) (xs := [.bool false]) (v := .bool false) (by kernel_rfl) (by kernel_rfl) (by kernel_rfl) (.pures (by kernel_rfl)) (by kernel_rfl)
     ·refine oR 6 (p' := (atN 2 (ctl1 g8p15))) (eE := ((54, .vec (x2_1.1).length 3 ((x2_1.1).flatMap e47)) :: (53, .str x1_1) :: (52, .bool false) :: E10)) (H' := (mkH [])) (by kernel_rfl) ?_
      refine oC (fun (x6_2 : (List S36)) => .vec (x6_2).length 4 ((x6_2).flatMap e37)) (atN 3 (ctl1 g8p15)) (fun x6_2 => ((55, .vec (x6_2).length 4 ((x6_2).flatMap e37)) :: (54, .vec (x2_1.1).length 3 ((x2_1.1).flatMap e47)) :: (53, .str x1_1) :: (52, .bool false) :: E10)) (fi := 29) (args := [.str x1_1, .vec (x2_1.1).length 3 ((x2_1.1).flatMap e47)]) (by kernel_rfl) (by kernel_rfl) (fun _ => by kernel_rfl) (fun r h => g29_ok k x1_1 x2_1.1 r h) (fun _ => by kernel_rfl) (fun x6_2 hx6_2 => ?_)
      let E11 : Env := ((57, .vec (x3_1.1).length 3 ((x3_1.1).flatMap e47)) :: (56, .str a1) :: (55, .vec (x6_2).length 4 ((x6_2).flatMap e37)) :: (54, .vec (x2_1.1).length 3 ((x2_1.1).flatMap e47)) :: (53, .str x1_1) :: (52, .bool false) :: E10)
      refine oR 2 (p' := (atN 5 (ctl1 g8p15))) (eE := E11) (H' := (mkH [])) (by kernel_rfl) ?_
      refine oC (fun (x6_5 : (List S36)) => .vec (x6_5).length 4 ((x6_5).flatMap e37)) (atN 6 (ctl1 g8p15)) (fun x6_5 => ((58, .vec (x6_5).length 4 ((x6_5).flatMap e37)) :: E11)) (fi := 29) (args := [.str a1, .vec (x3_1.1).length 3 ((x3_1.1).flatMap e47)]) (by kernel_rfl) (by kernel_rfl) (fun _ => by kernel_rfl) (fun r h => g29_ok k a1 x3_1.1 r h) (fun _ => by kernel_rfl) (fun x6_5 hx6_5 => ?_)
      refine oR 2 (p' := (atN 8 (ctl1 g8p15))) (eE := ((60, .str a1) :: (59, .str x1_1) :: (58, .vec (x6_5).length 4 ((x6_5).flatMap e37)) :: E11)) (H' := (mkH [])) (by kernel_rfl) ?_
      refine oH (fun (x6_8 : (List Nat)) => (.str x6_8, (mkH []))) (atN 9 (ctl1 g8p15)) (fun x6_8 => ((61, .str x6_8) :: (60, .str a1) :: (59, .str x1_1) :: (58, .vec (x6_5).length 4 ((x6_5).flatMap e37)) :: E11)) (catH (by kernel_rfl)) (fun _ => by kernel_rfl) (fun x6_8 hx6_8 => ?_)
      let E12 : Env := ((62, .vec (x4_3.1).length 3 ((x4_3.1).flatMap e47)) :: (61, .str x6_8) :: (60, .str a1) :: (59, .str x1_1) :: (58, .vec (x6_5).length 4 ((x6_5).flatMap e37)) :: E11)
      refine oR 1 (p' := (atN 10 (ctl1 g8p15))) (eE := E12) (H' := (mkH [])) (by kernel_rfl) ?_
      refine oC (fun (x6_10 : (List S36)) => .vec (x6_10).length 4 ((x6_10).flatMap e37)) (atN 11 (ctl1 g8p15)) (fun x6_10 => ((63, .vec (x6_10).length 4 ((x6_10).flatMap e37)) :: E12)) (fi := 29) (args := [.str x6_8, .vec (x4_3.1).length 3 ((x4_3.1).flatMap e47)]) (by kernel_rfl) (by kernel_rfl) (fun _ => by kernel_rfl) (fun r h => g29_ok k x6_8 x4_3.1 r h) (fun _ => by kernel_rfl) (fun x6_10 hx6_10 => ?_)
      refine oR 6 (p' := g8p16) (eE := ((13, .vec (x6_10).length 4 ((x6_10).flatMap e37)) :: (12, .vec (x6_5).length 4 ((x6_5).flatMap e37)) :: (11, .vec (x6_2).length 4 ((x6_2).flatMap e37)) :: (63, .vec (x6_10).length 4 ((x6_10).flatMap e37)) :: E12)) (H' := (mkH [])) (by kernel_rfl) ?_
      refine oK [5, 11, 12, 13] (eE := [(5, .vec (x2_1.1).length 3 ((x2_1.1).flatMap e47)), (11, .vec (x6_2).length 4 ((x6_2).flatMap e37)), (12, .vec (x6_5).length 4 ((x6_5).flatMap e37)), (13, .vec (x6_10).length 4 ((x6_10).flatMap e37))]) (by kernel_rfl) ?_
      let E13 : Env := [(67, .bool (decide ((x2_1.1.length : Int) = 0))), (66, .bool (decide ((x2_1.1.length : Int) = 0))), (65, .int .i64 (x2_1.1.length : Int)), (64, .vec (x2_1.1).length 3 ((x2_1.1).flatMap e47)), (5, .vec (x2_1.1).length 3 ((x2_1.1).flatMap e47)), (11, .vec (x6_2).length 4 ((x6_2).flatMap e37)), (12, .vec (x6_5).length 4 ((x6_5).flatMap e37)), (13, .vec (x6_10).length 4 ((x6_10).flatMap e37))]
      refine oR 5 (p' := (atN 4 (ctl1 g8p16))) (eE := E13) (H' := (mkH [])) (by kernel_rfl) ?_
      refine oJ (f := fun (z15 : Bool) => if z15 then ((g27 k).bind fun x8_0 => some x8_0) else (jn (fun (z16 : Bool) => if z16 then (some false) else (g8_l17 k x2_1 x6_2 x6_5 x6_10 k 0)) (fun j16 => if (!decide ((x6_10.length : Int) = fW .i64 ((x6_2.length : Int) + (x6_5.length : Int)))) then (j16 true) else ((subL x6_10 none (some (x6_2.length : Int))).bind fun x9_12 => (g31 k x9_12 x6_2).bind fun x9_14 => j16 (!x9_14))))) g8p17 (fun (z15 : Bool) => [(5, .vec (x2_1.1).length 3 ((x2_1.1).flatMap e47)), (11, .vec (x6_2).length 4 ((x6_2).flatMap e37)), (12, .vec (x6_5).length 4 ((x6_5).flatMap e37)), (13, .vec (x6_10).length 4 ((x6_10).flatMap e37)), (76, .bool z15)]) (fun (z15 : Bool) => (mkH [])) (fun z15 => ?_) (fun j15 hj15 => ?_)
      ·refine oS 76 (b := z15) (by kernel_rfl) (fun hb => ?_) (fun hb => ?_)
       ·let E14 : Env := [(76, .bool true), (5, .vec (x2_1.1).length 3 ((x2_1.1).flatMap e47)), (11, .vec (x6_2).length 4 ((x6_2).flatMap e37)), (12, .vec (x6_5).length 4 ((x6_5).flatMap e37)), (13, .vec (x6_10).length 4 ((x6_10).flatMap e37)), (76, .bool z15)]
        refine oR 3 (p' := (atN 0 (ctl1 g8p18))) (eE := E14) (H' := (mkH [])) (by kernel_rfl) ?_
        refine oC (fun (x8_0 : Bool) => .bool x8_0) (atN 1 (ctl1 g8p18)) (fun x8_0 => ((77, .bool x8_0) :: E14)) (fi := 27) (args := []) (by kernel_rfl) (by kernel_rfl) (fun _ => by kernel_rfl) (fun r h => g27_ok k  r h) (fun _ => by kernel_rfl) (fun x8_0 hx8_0 => ?_)
        refine oR 3 (p' := .fin) (eE := ((4, .bool x8_0) :: (77, .bool x8_0) :: E14)) (H' := (mkH [])) (by kernel_rfl) ?_
        exact oT (r := x8_0) (xs := [.bool x8_0]) (v := .bool x8_0) (by kernel_rfl) (by kernel_rfl) (by kernel_rfl) (.pures (by kernel_rfl)) (by kernel_rfl)
       ·let E15 : Env := [(86, .bool (!decide ((x6_10.length : Int) = fW .i64 ((x6_2.length : Int) + (x6_5.length : Int))))), (85, .bool (!decide ((x6_10.length : Int) = fW .i64 ((x6_2.length : Int) + (x6_5.length : Int))))), (84, .int .i64 (fW .i64 ((x6_2.length : Int) + (x6_5.length : Int)))), (83, .int .i64 (x6_5.length : Int)), (82, .vec (x6_5).length 4 ((x6_5).flatMap e37)), (81, .int .i64 (x6_2.length : Int)), (80, .vec (x6_2).length 4 ((x6_2).flatMap e37)), (79, .int .i64 (x6_10.length : Int)), (78, .vec (x6_10).length 4 ((x6_10).flatMap e37)), (76, .bool false), (5, .vec (x2_1.1).length 3 ((x2_1.1).flatMap e47)), (11, .vec (x6_2).length 4 ((x6_2).flatMap e37)), (12, .vec (x6_5).length 4 ((x6_5).flatMap e37)), (13, .vec (x6_10).length 4 ((x6_10).flatMap e37)), (76, .bool z15)]
        refine oR 14 (p' := (atN 9 (ctl1 g8p19))) (eE := E15) (H' := (mkH [])) (by kernel_rfl) ?_
        refine oJ (f := fun (z16 : Bool) => if z16 then (some false) else (g8_l17 k x2_1 x6_2 x6_5 x6_10 k 0)) g8p20 (fun (z16 : Bool) => [(5, .vec (x2_1.1).length 3 ((x2_1.1).flatMap e47)), (11, .vec (x6_2).length 4 ((x6_2).flatMap e37)), (12, .vec (x6_5).length 4 ((x6_5).flatMap e37)), (13, .vec (x6_10).length 4 ((x6_10).flatMap e37)), (94, .bool z16)]) (fun (z16 : Bool) => (mkH [])) (fun z16 => ?_) (fun j16 hj16 => ?_)
        ·refine oS 94 (b := z16) (by kernel_rfl) (fun hb => ?_) (fun hb => ?_)
         ·let E16 : Env := [(4, .bool false), (94, .bool true), (5, .vec (x2_1.1).length 3 ((x2_1.1).flatMap e47)), (11, .vec (x6_2).length 4 ((x6_2).flatMap e37)), (12, .vec (x6_5).length 4 ((x6_5).flatMap e37)), (13, .vec (x6_10).length 4 ((x6_10).flatMap e37)), (94, .bool z16)]
          refine oR 6 (p' := .fin) (eE := E16) (H' := (mkH [])) (by kernel_rfl) ?_
          exact oT (r := false) (xs := [.bool false]) (v := .bool false) (by kernel_rfl) (by kernel_rfl) (by kernel_rfl) (.pures (by kernel_rfl)) (by kernel_rfl)
         ·let E17 : Env := [(14, .int .i64 0), (94, .bool false), (5, .vec (x2_1.1).length 3 ((x2_1.1).flatMap e47)), (11, .vec (x6_2).length 4 ((x6_2).flatMap e37)), (12, .vec (x6_5).length 4 ((x6_5).flatMap e37)), (13, .vec (x6_10).length 4 ((x6_10).flatMap e37)), (94, .bool z16)]
          refine oR 9 (p' := g8p23) (eE := E17) (H' := (mkH [])) (by kernel_rfl) ?_
          refine oK [5, 11, 12, 13, 14] (eE := [(5, .vec (x2_1.1).length 3 ((x2_1.1).flatMap e47)), (11, .vec (x6_2).length 4 ((x6_2).flatMap e37)), (12, .vec (x6_5).length 4 ((x6_5).flatMap e37)), (13, .vec (x6_10).length 4 ((x6_10).flatMap e37)), (14, .int .i64 0)]) (by kernel_rfl) ?_
          exact (g8_l17_ok k x2_1 x6_2 x6_5 x6_10 k) 0
        ·refine oS 86 (b := !decide ((x6_10.length : Int) = fW .i64 ((x6_2.length : Int) + (x6_5.length : Int)))) (by kernel_rfl) (fun hb => ?_) (fun hb => ?_)
         ·let E36 : Env := ((94, .bool true) :: (93, .tuple []) :: (92, .tuple []) :: (91, .tuple []) :: (90, .tuple []) :: (89, .tuple []) :: (88, .tuple []) :: (87, .tuple []) :: (86, .bool true) :: E15)
          refine oR 9 (p' := g8p20) (eE := E36) (H' := (mkH [])) (by kernel_rfl) ?_
          refine oK [5, 11, 12, 13, 94] (eE := [(5, .vec (x2_1.1).length 3 ((x2_1.1).flatMap e47)), (11, .vec (x6_2).length 4 ((x6_2).flatMap e37)), (12, .vec (x6_5).length 4 ((x6_5).flatMap e37)), (13, .vec (x6_10).length 4 ((x6_10).flatMap e37)), (94, .bool true)]) (by kernel_rfl) ?_
          exact hj16 true
         ·refine oR 3 (p' := (atN 12 (ctl1 g8p19))) (eE := ((89, .int .i64 (x6_2.length : Int)) :: (88, .vec (x6_2).length 4 ((x6_2).flatMap e37)) :: (87, .vec (x6_10).length 4 ((x6_10).flatMap e37)) :: (86, .bool false) :: E15)) (H' := (mkH [])) (by kernel_rfl) ?_
          refine oH (fun (x9_12 : (List S36)) => (.vec (x9_12).length 4 ((x9_12).flatMap e37), (mkH []))) (atN 13 (ctl1 g8p19)) (fun x9_12 => ((90, .vec (x9_12).length 4 ((x9_12).flatMap e37)) :: (89, .int .i64 (x6_2.length : Int)) :: (88, .vec (x6_2).length 4 ((x6_2).flatMap e37)) :: (87, .vec (x6_10).length 4 ((x6_10).flatMap e37)) :: (86, .bool false) :: E15)) (vsubH (sz := 4) e37_len none (some (x6_2.length : Int)) (by kernel_rfl)) (fun _ => by kernel_rfl) (fun x9_12 hx9_12 => ?_)
          let E37 : Env := ((91, .vec (x6_2).length 4 ((x6_2).flatMap e37)) :: (90, .vec (x9_12).length 4 ((x9_12).flatMap e37)) :: (89, .int .i64 (x6_2.length : Int)) :: (88, .vec (x6_2).length 4 ((x6_2).flatMap e37)) :: (87, .vec (x6_10).length 4 ((x6_10).flatMap e37)) :: (86, .bool false) :: E15)
          refine oR 1 (p' := (atN 14 (ctl1 g8p19))) (eE := E37) (H' := (mkH [])) (by kernel_rfl) ?_
          refine oC (fun (x9_14 : Bool) => .bool x9_14) (atN 15 (ctl1 g8p19)) (fun x9_14 => ((92, .bool x9_14) :: E37)) (fi := 31) (args := [.vec (x9_12).length 4 ((x9_12).flatMap e37), .vec (x6_2).length 4 ((x6_2).flatMap e37)]) (by kernel_rfl) (by kernel_rfl) (fun _ => by kernel_rfl) (fun r h => g31_ok k x9_12 x6_2 r h) (fun _ => by kernel_rfl) (fun x9_14 hx9_14 => ?_)
          refine oR 3 (p' := g8p20) (eE := ((94, .bool (!x9_14)) :: (93, .bool (!x9_14)) :: (92, .bool x9_14) :: E37)) (H' := (mkH [])) (by kernel_rfl) ?_
          refine oK [5, 11, 12, 13, 94] (eE := [(5, .vec (x2_1.1).length 3 ((x2_1.1).flatMap e47)), (11, .vec (x6_2).length 4 ((x6_2).flatMap e37)), (12, .vec (x6_5).length 4 ((x6_5).flatMap e37)), (13, .vec (x6_10).length 4 ((x6_10).flatMap e37)), (94, .bool (!x9_14))]) (by kernel_rfl) ?_
          exact hj16 (!x9_14)
      ·refine oS 67 (b := decide ((x2_1.1.length : Int) = 0)) (by kernel_rfl) (fun hb => ?_) (fun hb => ?_)
       ·let E38 : Env := ((76, .bool true) :: (75, .tuple []) :: (74, .tuple []) :: (73, .tuple []) :: (72, .tuple []) :: (71, .tuple []) :: (70, .tuple []) :: (69, .tuple []) :: (68, .tuple []) :: (67, .bool true) :: E13)
        refine oR 10 (p' := g8p17) (eE := E38) (H' := (mkH [])) (by kernel_rfl) ?_
        refine oK [5, 11, 12, 13, 76] (eE := [(5, .vec (x2_1.1).length 3 ((x2_1.1).flatMap e47)), (11, .vec (x6_2).length 4 ((x6_2).flatMap e37)), (12, .vec (x6_5).length 4 ((x6_5).flatMap e37)), (13, .vec (x6_10).length 4 ((x6_10).flatMap e37)), (76, .bool true)]) (by kernel_rfl) ?_
        exact hj15 true
       ·let E39 : Env := ((71, .int .i64 (fW .i64 ((x2_1.1.length : Int) - 1))) :: (70, .int .i64 (x2_1.1.length : Int)) :: (69, .vec (x2_1.1).length 3 ((x2_1.1).flatMap e47)) :: (68, .vec (x2_1.1).length 3 ((x2_1.1).flatMap e47)) :: (67, .bool false) :: E13)
        refine oR 4 (p' := (atN 8 (ctl1 g8p16))) (eE := E39) (H' := (mkH [])) (by kernel_rfl) ?_
        refine oH (fun (x7_8 : S46) => (.vptr [.int .i64 x7_8.f0, .str x7_8.f1, .int .i64 x7_8.f2], (mkH []))) (atN 9 (ctl1 g8p16)) (fun x7_8 => ((72, .vptr [.int .i64 x7_8.f0, .str x7_8.f1, .int .i64 x7_8.f2]) :: E39)) (vidxH (sz := 3) e47_len (by kernel_rfl)) (fun _ => by kernel_rfl) (fun x7_8 hx7_8 => ?_)
        let E40 : Env := ((76, .bool (!decide (x7_8.f0 = 10))) :: (75, .bool (!decide (x7_8.f0 = 10))) :: (74, .int .i64 x7_8.f0) :: (73, .vptr [.int .i64 x7_8.f0, .str x7_8.f1, .int .i64 x7_8.f2]) :: (72, .vptr [.int .i64 x7_8.f0, .str x7_8.f1, .int .i64 x7_8.f2]) :: E39)
        refine oR 5 (p' := g8p17) (eE := E40) (H' := (mkH [])) (by kernel_rfl) ?_
        refine oK [5, 11, 12, 13, 76] (eE := [(5, .vec (x2_1.1).length 3 ((x2_1.1).flatMap e47)), (11, .vec (x6_2).length 4 ((x6_2).flatMap e37)), (12, .vec (x6_5).length 4 ((x6_5).flatMap e37)), (13, .vec (x6_10).length 4 ((x6_10).flatMap e37)), (76, .bool (!decide (x7_8.f0 = 10)))]) (by kernel_rfl) ?_
        exact hj15 (!decide (x7_8.f0 = 10))
   ·refine oS 46 (b := !decide (x2_1.2 = 0)) (by kernel_rfl) (fun hb => ?_) (fun hb => ?_)
    ·refine oR 4 (p' := g8p10) (eE := ((49, .bool true) :: (48, .tuple []) :: (47, .tuple []) :: (46, .bool true) :: E8)) (H' := (mkH [])) (by kernel_rfl) ?_
     refine oK [0, 1, 5, 7, 9, 10, 49] (eE := [(0, .str x1_1), (1, .str a1), (5, .vec (x2_1.1).length 3 ((x2_1.1).flatMap e47)), (7, .vec (x3_1.1).length 3 ((x3_1.1).flatMap e47)), (9, .vec (x4_3.1).length 3 ((x4_3.1).flatMap e47)), (10, .int .i64 x4_3.2), (49, .bool true)]) (by kernel_rfl) ?_
     exact hj14 true
    ·refine oR 4 (p' := g8p10) (eE := ((49, .bool (!decide (x3_1.2 = 0))) :: (48, .bool (!decide (x3_1.2 = 0))) :: (47, .int .i64 x3_1.2) :: (46, .bool false) :: E8)) (H' := (mkH [])) (by kernel_rfl) ?_
     refine oK [0, 1, 5, 7, 9, 10, 49] (eE := [(0, .str x1_1), (1, .str a1), (5, .vec (x2_1.1).length 3 ((x2_1.1).flatMap e47)), (7, .vec (x3_1.1).length 3 ((x3_1.1).flatMap e47)), (9, .vec (x4_3.1).length 3 ((x4_3.1).flatMap e47)), (10, .int .i64 x4_3.2), (49, .bool (!decide (x3_1.2 = 0)))]) (by kernel_rfl) ?_
     exact hj14 (!decide (x3_1.2 = 0))
 ·refine oS 19 (b := decide (500 < (a0.length : Int))) (by kernel_rfl) (fun hb => ?_) (fun hb => ?_)
  ·let E41 : Env := ((23, .bool true) :: (22, .tuple []) :: (21, .tuple []) :: (20, .tuple []) :: (19, .bool true) :: E1)
   refine oR 5 (p' := g8p2) (eE := E41) (H' := (mkH [])) (by kernel_rfl) ?_
   refine oK [0, 1, 23] (eE := [(0, .str a0), (1, .str a1), (23, .bool true)]) (by kernel_rfl) ?_
   exact hj13 true
  ·let E42 : Env := ((23, .bool (decide (500 < (a1.length : Int)))) :: (22, .bool (decide (500 < (a1.length : Int)))) :: (21, .int .i64 (a1.length : Int)) :: (20, .str a1) :: (19, .bool false) :: E1)
   refine oR 5 (p' := g8p2) (eE := E42) (H' := (mkH [])) (by kernel_rfl) ?_
   refine oK [0, 1, 23] (eE := [(0, .str a0), (1, .str a1), (23, .bool (decide (500 < (a1.length : Int))))]) (by kernel_rfl) ?_
   exact hj13 (decide (500 < (a1.length : Int)))
end
end Go.Proofs.Ytbmijiibfaacmaa.Am
set_option maxRecDepth 100000
set_option linter.unusedVariables false
set_option linter.unusedSimpArgs false
namespace Go.Proofs.Ytbmijiibfaacmaa.Am
open Go
theorem told8 (k : Nat) : g27 (k + 60) = some true := by kernel_rfl
theorem itm_beq (x : S36) : ((decide (x.f0 = x.f0)) && ((decide (x.f1 = x.f1)) && ((x.f2 == x.f2) && ((x.f3 == x.f3) && true)))) = true := by simp
theorem items_l (k : Nat) (X : List S36) (hX : X.length ≤ 3000) : ∀ (d i f : Nat), i + d = X.length → d < f → g31_l1 k X X f (i : Int) = some true
 | d, i, 0, h, hf => by omega
 | 0, i, f + 1, h, hf => by
  rw [g31_l1_s]
  exact iF (dF (by omega)) rfl
 | d + 1, i, f + 1, h, hf => by
  obtain ⟨x, r, hx, -, -, -⟩ := dconsL (s := X) (i := i) (by omega)
  have ih := items_l k X hX d (i + 1) f (by omega) (by omega)
  rw [g31_l1_s]
  refine iT (dT (by omega)) ?_
  refine bS (by (try simp (disch := omega) only [fwI]); exact nthL_at hx) ?_
  refine bS (by (try simp (disch := omega) only [fwI]); exact nthL_at hx) ?_
  refine iF (by rw [itm_beq]; rfl) ?_
  rw [fw_s (by omega)]
  exact ih
theorem items_at {k : Nat} {X : List S36} (hX : X.length ≤ 3000) (hk : X.length < k) : g31 k X X = some true := by
 unfold g31
 refine iF (by rw [dT rfl]; rfl) ?_
 exact items_l k X hX X.length 0 k (by omega) hk
def itS (n : Nat) (bl : Nat → Bool) (x : Nat × Nat × Bool × Bool) : S36 := itm (n + x.1, n + x.2.1, x.2.2.1, bl (n + x.1))
theorem sj_1 (k : Nat) (hk : 1900 ≤ k) (L : List S46) (er : Int) (X : List S36) (Y0 : List (Nat × Nat × Bool × Bool)) (bl : Nat → Bool) (hX : X.length ≤ 3000) (hY : Y0.length ≤ 3000) (hL : L.length ≤ 3000) (hp : ∀ i x r, Y0.drop i = x :: r → x.1 ≤ 3000 ∧ x.2.1 ≤ 3000 ∧ (0 < i → bl (L.length + x.1) = x.2.2.2)) : ∀ (d i f : Nat), i + d = Y0.length → d < f →
 g8_l17 (k + 60) (L, er) X (Y0.map itm) (X ++ Y0.map (itS L.length bl)) f (i : Int) = some true
 | d, i, 0, h, hf => by omega
 | 0, i, f + 1, h, hf => by
  rw [g8_l17_s]
  refine iF (dF (by rw [List.length_map]; omega)) ?_
  refine bS (by (try simp (disch := omega) only [fwI]); exact told8 k) ?_
  rfl
 | d + 1, i, f + 1, h, hf => by
  obtain ⟨x, r, hx, -, -, -⟩ := dconsL (s := Y0) (i := i) (by omega)
  obtain ⟨p1, p2, p3⟩ := hp i x r hx
  have ih := sj_1 k hk L er X Y0 bl hX hY hL hp d (i + 1) f (by omega) (by omega)
  have ny : nthL (Y0.map itm) (i : Int) = some (itm x) := nthL_at (r := r.map itm) (by rw [← List.map_drop, hx]; rfl)
  have nz : nthL (X ++ Y0.map (itS L.length bl)) ((X.length + i : Nat) : Int) = some (itS L.length bl x) := nthL_at (r := r.map (itS L.length bl)) (by rw [List.drop_append, List.drop_eq_nil_of_le (by omega), show X.length + i - X.length = i by omega, ← List.map_drop, hx]; rfl)
  rw [g8_l17_s]
  refine iT (dT (by rw [List.length_map]; omega)) ?_
  rw [fw_a (by omega) (by omega)]
  refine bS (by (try simp (disch := omega) only [fwI]); exact nz) ?_
  refine (jS (v := (false, (i : Int))) (fun j => ?_)).trans ?_
  ·refine bS (by (try simp (disch := omega) only [fwI]); exact ny) ?_
   refine iF ?_ ?_
   ·show (!decide (((L.length + x.1 : Nat) : Int) = fW .i64 ((x.1 : Int) + (L.length : Int)))) = false
    rw [fw_a (by omega) (by omega), dT (by omega)]; rfl
   ·refine bS (by (try simp (disch := omega) only [fwI]); exact ny) ?_
    refine iF ?_ ?_
    ·show (!decide (((L.length + x.2.1 : Nat) : Int) = fW .i64 ((x.2.1 : Int) + (L.length : Int)))) = false
     rw [fw_a (by omega) (by omega), dT (by omega)]; rfl
    ·refine bS (by (try simp (disch := omega) only [fwI]); exact ny) ?_
     refine iF ?_ ?_
     ·show (!(x.2.2.1 == x.2.2.1)) = false
      simp
     ·by_cases h0 : 0 < i
      ·refine iT (dT (by omega)) ?_
       refine bS (by (try simp (disch := omega) only [fwI]); exact ny) ?_
       rw [show (!((itS L.length bl x).f3 == (itm x).f3)) = false from by
        show (!(bl (L.length + x.1) == x.2.2.2)) = false
        rw [p3 h0]; simp]
      ·exact iF (dF (by omega)) rfl
  ·refine iF rfl ?_
   rw [fw_s (by omega)]
   exact ih
theorem subToL {α : Type} {X Y : List α} : subL (X ++ Y) none (some (X.length : Int)) = some X := by
 unfold subL bnd
 simp only [List.length_append]
 rw [if_pos (by omega)]
 simp
theorem splitJoins_true (a b : List Nat) (ha : ∀ c ∈ a, c < 256) (la : a.length ≤ 140737488351232) (hb : ∀ c ∈ b, c < 256) (lb : b.length ≤ 140737488351232) : ∃ k, g8 k a b = some true := by
 refine ⟨3940 + 60, ?_⟩
 unfold g8
 by_cases h5 : 500 < a.length ∨ 500 < b.length
 ·refine (jS (v := true) (fun j => ?_)).trans ?_
  ·by_cases h : 500 < a.length
   ·exact iT (dT (by omega)) rfl
   ·refine iF (dF (by omega)) ?_
    rw [dT (by omega)]
  ·refine iT rfl ?_
   refine bS (by (try simp (disch := omega) only [fwI]); exact told8 3940) ?_
   rfl
 ·refine (jS (v := false) (fun j => ?_)).trans ?_
  ·refine iF (dF (by omega)) ?_
   rw [dF (by omega)]
  ·refine iF rfl ?_
   have c1 : catS a [32, 120, 46, 10] = some (a ++ [32, 120, 46, 10]) := by unfold catS; rw [if_pos (by simp only [List.length_cons, List.length_nil]; omega)]
   refine bS (by (try simp (disch := omega) only [fwI]); exact c1) ?_
   have hA : By (a ++ [32, 120, 46, 10]) := By.app ha (by decide)
   have eA : a ++ [32, 120, 46, 10] = (a ++ [32, 120, 46]) ++ [10] := by rw [List.append_assoc]; rfl
   have lA : (a ++ [32, 120, 46, 10]).length = a.length + 4 := by simp
   have lu : (a ++ [32, 120, 46]).length = a.length + 3 := by simp
   generalize a ++ [32, 120, 46, 10] = A at *
   generalize a ++ [32, 120, 46] = u at *
   have c2 : catS A b = some (A ++ b) := by unfold catS; rw [if_pos (by omega)]
   have hAb : By (A ++ b) := hA.app hb
   have lAb : (A ++ b).length = a.length + 4 + b.length := by rw [List.length_append]; omega
   refine bS (by (try simp (disch := omega) only [fwI]); exact rscan_at (k := 3940 + 60) (s := A) (by omega) hA (show A.length ≤ _ by omega)) ?_
   refine bS (by (try simp (disch := omega) only [fwI]); exact rscan_at (k := 3940 + 60) (s := b) (by omega) hb lb) ?_
   refine bS (by (try simp (disch := omega) only [fwI]); exact c2) ?_
   refine bS (by (try simp (disch := omega) only [fwI]); exact rscan_at (k := 3940 + 60) (s := A ++ b) (by omega) hAb (show (A ++ b).length ≤ _ by omega)) ?_
   by_cases hab : (scanN A).2 = 0 ∧ (scanN b).2 = 0
   ·obtain ⟨hA0, hb0⟩ := hab
    obtain ⟨l, tl, el, vA, -⟩ := scan_ok hA0
    obtain ⟨m, tm, em, vb, -⟩ := scan_ok hb0
    have cl : l.length ≤ A.length := toks_len A (A.length + 1) 0 l ((toks_iff A (A.length + 1) 0 l (by omega)).2 tl) (Nat.zero_le _)
    have cm : m.length ≤ b.length := toks_len b (b.length + 1) 0 m ((toks_iff b (b.length + 1) 0 m (by omega)).2 tm) (Nat.zero_le _)
    have tu : Toks u 0 l := toks_less (Nat.zero_le _) (by rw [← eA]; exact tl)
    have tz : Toks (A ++ b) 0 (l ++ m.map (shiftT A.length)) := by
     have := toks_join b (Nat.zero_le _) tu tm
     rw [show u.length + 1 = A.length by omega] at this
     rw [eA, List.append_assoc] at *
     exact this
    have ez := scan_some (s := A ++ b) (by omega) (by rw [V_app b vA]; exact vb) tz
    rw [el, em, ez]
    refine (jS (v := false) (fun j => ?_)).trans ?_
    ·exact iF rfl rfl
    ·refine iF rfl ?_
     refine iF rfl ?_
     refine bS (by (try simp (disch := omega) only [fwI]); exact split_at (k := 3940 + 60) (by omega) (by omega) tl) ?_
     refine bS (by (try simp (disch := omega) only [fwI]); exact split_at (k := 3940 + 60) (by omega) (by omega) tm) ?_
     refine bS (by (try simp (disch := omega) only [fwI]); exact c2) ?_
     refine bS (by (try simp (disch := omega) only [fwI]); exact split_at (k := 3940 + 60) (by omega) (by omega) tz) ?_
     have ll : (l.map (mkTok A)).length = l.length := List.length_map _
     by_cases hD : eD (kindsN l) = true
     ·have hl0 : 1 ≤ l.length := by
       rcases Nat.eq_zero_or_pos l.length with h | h
       ·rw [List.length_eq_zero_iff.1 h] at hD; cases hD
       ·exact h
      obtain ⟨x, r, hx, hr, -, hrl⟩ := dconsL (s := l) (i := l.length - 1) (by omega)
      obtain rfl : r = [] := List.length_eq_zero_iff.1 (by omega)
      have hx10 : x.1 = 10 := by
       have h2 := eD_drop (l.length - 1) hD
       rw [kindsN, ← List.map_drop, hx] at h2
       rcases h2 with h2 | h2
       ·cases h2
       ·exact of_decide_eq_true h2
      refine (jS (v := false) (fun j => ?_)).trans ?_
      ·refine iF (dF (by simp only [ll]; omega)) ?_
       rw [show fW .i64 (((l.map (mkTok A)).length : Int) - 1) = ((l.length - 1 : Nat) : Int) from by rw [ll, fwI (by omega) (by omega)]; omega]
       refine bS (by (try simp (disch := omega) only [fwI]); exact map_drop' (f := mkTok A) hx) ?_
       rw [show (!decide ((mkTok A x).f0 = 10)) = false from by
        rw [dT (by show ((x.1 : Nat) : Int) = 10; omega)]; rfl]
      ·refine iF rfl ?_
       have kl : (kindsN l).length = l.length := List.length_map _
       have km : (kindsN m).length = m.length := List.length_map _
       have kz : kindsN (l ++ m.map (shiftT A.length)) = kindsN l ++ kindsN m := by
        rw [kindsN, List.map_append, List.map_map]; rfl
       have ex : splN (blkF (A ++ b) (l ++ m.map (shiftT A.length))) (3940 + 60) (kindsN l) 0 = splN (blkF A l) (3940 + 60) (kindsN l) 0 := spl_same _ _ _ (fun j h1 h2 => by
        show decide _ = decide _
        rw [gap_app b _ tl j (by omega)])
       have ey := spl_shift (blkF b m) (blkF (A ++ b) (l ++ m.map (shiftT A.length))) l.length (3940 + 60) (kindsN m) 0
       have eZ := spl_app (blkF (A ++ b) (l ++ m.map (shiftT A.length))) (kindsN m) (3940 + 60) (kindsN l) 0 (.inr hD) (by omega)
       rw [kl, Nat.zero_add] at eZ
       rw [show l.length + 0 = l.length from rfl] at ey
       rw [ey, ex] at eZ
       rw [kz, eZ]
       have hlx := splN_len (blkF A l) (3940 + 60) (kindsN l) 0
       have hly := splN_len (blkF b m) (3940 + 60) (kindsN m) 0
       have hp := spl_mem (blkF b m) (3940 + 60) (kindsN m) 0
       have hbl : ∀ j, 1 ≤ j → j < m.length → blkF (A ++ b) (l ++ m.map (shiftT A.length)) (l.length + j) = blkF b m j := fun j h1 h2 => by
        show decide _ = decide _
        rw [gap_shift A b l m j h1 h2]
       generalize blkF (A ++ b) (l ++ m.map (shiftT A.length)) = blz at *
       generalize splN (blkF A l) (3940 + 60) (kindsN l) 0 = X0 at *
       have hY : ∀ i x r, (splN (blkF b m) (3940 + 60) (kindsN m) 0).drop i = x :: r → x.1 ≤ 3000 ∧ x.2.1 ≤ 3000 ∧ (0 < i → blz ((l.map (mkTok A)).length + x.1) = x.2.2.2) := by
        intro i x r h
        obtain ⟨q1, q2, q3, q4⟩ := hp i x r h
        refine ⟨by omega, by omega, fun h0 => ?_⟩
        rw [q1, ll]
        exact hbl x.1 (by omega) (by omega)
       clear hp
       generalize splN (blkF b m) (3940 + 60) (kindsN m) 0 = Y0 at *
       rw [List.map_append, List.map_map, show (itm ∘ fun x : Nat × Nat × Bool × Bool => (l.length + x.1, l.length + x.2.1, x.2.2.1, blz (l.length + x.1))) = itS (l.map (mkTok A)).length blz from by rw [ll]; rfl]
       refine (jS (v := false) (fun j => ?_)).trans ?_
       ·refine iF ?_ ?_
        ·rw [List.length_append, List.length_map, List.length_map, List.length_map, fw_a (by omega) (by omega), dT (by rfl)]; rfl
        ·refine bS (by (try simp (disch := omega) only [fwI]); exact subToL (X := X0.map itm) (Y := Y0.map (itS (l.map (mkTok A)).length blz))) ?_
         refine bS (by (try simp (disch := omega) only [fwI]); exact items_at (k := 3940 + 60) (X := X0.map itm) (by rw [List.length_map]; omega) (by rw [List.length_map]; omega)) ?_
         rfl
       ·refine iF rfl ?_
        exact sj_1 3940 (by omega) (l.map (mkTok A)) 0 (X0.map itm) Y0 blz (by rw [List.length_map]; omega) (by omega) (by omega) hY Y0.length 0 (3940 + 60) (by omega) (by omega)
     ·refine (jS (v := true) (fun j => ?_)).trans ?_
      ·by_cases hl0 : l.length = 0
       ·exact iT (dT (by simp only [ll]; omega)) rfl
       ·refine iF (dF (by simp only [ll]; omega)) ?_
        obtain ⟨x, r, hx, hr, -, hrl⟩ := dconsL (s := l) (i := l.length - 1) (by omega)
        obtain rfl : r = [] := List.length_eq_zero_iff.1 (by omega)
        rw [show fW .i64 (((l.map (mkTok A)).length : Int) - 1) = ((l.length - 1 : Nat) : Int) from by rw [ll, fwI (by omega) (by omega)]; omega]
        refine bS (by (try simp (disch := omega) only [fwI]); exact map_drop' (f := mkTok A) hx) ?_
        rw [show (!decide ((mkTok A x).f0 = 10)) = true from by
         rw [dF]; rfl
         intro h
         apply hD
         refine eD_of (j := l.length - 1) ?_
         rw [kindsN, ← List.map_drop, hx]
         have h : ((x.1 : Nat) : Int) = 10 := h
         show [x.1] = [10]
         rw [show x.1 = 10 by omega]]
      ·refine iT rfl ?_
       refine bS (by (try simp (disch := omega) only [fwI]); exact told8 3940) ?_
       rfl
   ·refine (jS (v := true) (fun j => ?_)).trans ?_
    ·by_cases hA0 : (scanN A).2 = 0
     ·refine iF (by rw [dT hA0]; rfl) ?_
      rw [dF (fun h => hab ⟨hA0, h⟩)]; rfl
     ·exact iT (by rw [dF hA0]; rfl) rfl
    ·refine iT rfl ?_
     refine bS (by (try simp (disch := omega) only [fwI]); exact told8 3940) ?_
     rfl
end Go.Proofs.Ytbmijiibfaacmaa.Am
set_option linter.unusedVariables false
set_option linter.unusedSimpArgs false
namespace Go.Proofs.Ytbmijiibfaacmaa.Am
open Go
theorem splitJoins_walk (a0 : ByteArray) (a1 : ByteArray) (W : World) (w0 : a0.size ≤ 140737488351232) (w1 : a1.size ≤ 140737488351232) : Calls Try.prog 8 #[.string a0, .string a1] W fun e W' => e = .returned (.bool true) ∧ RowKit.Below W.heap.size W W' := by
 obtain ⟨k, h⟩ := splitJoins_true (a0.data.toList.map (·.toNat)) (a1.data.toList.map (·.toNat)) (bytes_lt a0) (by simpa using w0) (bytes_lt a1) (by simpa using w1)
 exact law_walk (g8_ok k (a0.data.toList.map (·.toNat)) (a1.data.toList.map (·.toNat)) true h) (by simp only [VRs, VR]; exact ⟨_, _, rfl, ⟨a0, rfl, rfl⟩, ⟨_, _, rfl, ⟨a1, rfl, rfl⟩, rfl⟩⟩) W
end Go.Proofs.Ytbmijiibfaacmaa.Am
namespace Go.Proofs.Ytbmijiibfaacmaa.splitJoins
open Go.ChangeShapes Go.WideShapes Go.ChangeAt Go.RowKit
open Go.ChangeMaps (open_string shut_string)
set_option linter.unusedVariables false
theorem own : ownKnob Try.prog.godebug = none := by kernel_rfl
set_option maxRecDepth 100000 in
theorem lifted (os : Os) (started : os.Started) (H : Type) (enc : TypeId × Value → H) :
 ReturnsInHanded {} Try.checked os 8 .any (Rows.splitJoinsSpec.pre6 enc Try.prog Try.f8 Rows.splitJoinsRow.domain false) (Rows.splitJoinsSpec.post enc Try.prog Try.f8 false true false false) := by
 refine returnsInHanded_of_change_sized (C := Try.checked) own started (by kernel_rfl) Try.func8
  (ChangeSpec.witness6 (enc := enc) (C := Try.checked) false ⟨#[], #[.string ByteArray.empty, .string ByteArray.empty], []⟩ 8 (by kernel_rfl) (by kernel_rfl) (by kernel_rfl) (by kernel_rfl)) ?_
 intro W base args ds gs before hval0 hW hcnd hsz0 _
 have hsz : (DataW.weightsEach Try.prog (Try.f8.params.toList ++ Rows.splitJoinsSpec.plain.varTypes Try.prog) (ds ++ gs)).all (· ≤ reachBytes) = true := hsz0
 have hval : ∀ (j : Nat) t v, Try.f8.params[j]? = some t → args[j]? = some v → Value.okWide Try.prog W .any base t v := hval0
 have hW' := hW
 obtain ⟨p, q, hA0, hV, rfl, hfz, hnd⟩ := hW
 have hA : DataW.TrodAll enc Try.prog W 0 (fun _ => true) true Try.f8.params.toList args.toList ds p := hA0
 rw [Try.params8] at hA hval hsz
 obtain ⟨v0, vs0, d0, ds0, p0, q0, hargs, rfl, rfl, h0, r0⟩ := trodAll_cons hA
 obtain ⟨v1, vs1, d1, ds1, p1, q1, rfl, rfl, rfl, h1, r1⟩ := trodAll_cons r0
 obtain ⟨rfl, rfl, rfl⟩ := trodAll_nil r1
 obtain rfl : args = #[v0, v1] := by cases args; simp_all
 obtain ⟨rfl, rfl⟩ := trodVars_none hV
 obtain ⟨a0, rfl, rfl, rfl, y0⟩ := open_string Try.underlying9 (hval 0 9 v0 rfl rfl) h0
 have w0 : a0.size ≤ 140737488351232 := by
  have z := sized_string hsz (j := 0) (t := 9) rfl rfl
  rw [Array.length_toList] at z
  exact z
 obtain ⟨a1, rfl, rfl, rfl, y1⟩ := open_string Try.underlying9 (hval 1 9 v1 rfl rfl) h1
 have w1 : a1.size ≤ 140737488351232 := by
  have z := sized_string hsz (j := 1) (t := 9) rfl rfl
  rw [Array.length_toList] at z
  exact z
 clear hA0 hval0 hsz0 hsz
 refine (Am.splitJoins_walk a0 a1 W w0 w1).mono fun e W' ⟨he, bel⟩ => ?_
 subst he
 exact ⟨_, rfl, _, _, _, [], _, [], hW', trodAll_mk1 (shut_bool Try.underlying4 _), (trodAll_cons_mk (shut_string Try.underlying9 y0) (trodAll_cons_mk (shut_string Try.underlying9 y1) trodAll_mk0)), rfl, bel.frame _, fun h => by cases h⟩
theorem over : Rows.splitJoinsRow.holds Try.pinned (OpenSpec.ofChange Rows.splitJoinsSpec) :=
 OpenClaim.holds_of_wide 8 Try.f8 rfl rfl rfl rfl rfl rfl rfl ⟨rfl, rfl, rfl, rfl, rfl⟩ rfl rfl rfl rfl rfl (by kernel_rfl) Try.func8 (by kernel_rfl)
  (of_decide_eq_true (by kernel_rfl)) (by unfold Func.isWrapper; first | (rw [if_pos (by decide +kernel)]; kernel_rfl) | (rw [if_neg (by decide +kernel)]; exact ⟨rfl, rfl⟩))
  (fun os started H enc _ => lifted os started H enc)
theorem proved : Rows.SplitJoinsSaid := over
#print axioms proved
end Go.Proofs.Ytbmijiibfaacmaa.splitJoins
namespace Go.Proofs.Ytbmijiibfaacmaa
theorem splitJoins_holds : Rows.SplitJoinsSaid := splitJoins.proved
end Go.Proofs.Ytbmijiibfaacmaa
